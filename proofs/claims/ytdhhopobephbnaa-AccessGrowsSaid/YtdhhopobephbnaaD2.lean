/-
  Plain functions that the program's functions compute. No condition: definitions, printed by dec.py.
-/
import Derived.Test.YtdhhopobephbnaaD1
namespace Go.LS
set_option linter.all false
set_option linter.unusedSimpArgs false
set_option linter.unusedVariables false
set_option maxRecDepth 20000

/-- awardingbody access.applies -/
noncomputable def access_applies_j1  : Option Bool :=
  some false
noncomputable def access_applies_j2 (v : Int) : Option (Int ⊕ (Unit ⊕ Bool)) :=
  some (.inl (IntKind.i64.wrap (v + (1 : Int))))
noncomputable def access_applies_l3 (r : api_AccessRule) (l : List api_Evidence) (candidate : Int) (time : Int) : Int → Option (Int ⊕ (Unit ⊕ Bool)) :=
  fun v =>
    bif (decide (v < (l.length : Int))) then
      req ((0 ≤ v ∧ v < (l.length : Int))) <|
      req (((!((ix l v).Candidate != candidate)) = true → (access_isDegree ((ix l v).Kind)).isSome = true) ∧ ((!(((ix l v).Candidate != candidate) || (!((access_isDegree ((ix l v).Kind)).getD default)))) = true → (access_isDegree ((ix l v).Level)).isSome = true)) <|
      bif ((((((ix l v).Candidate != candidate) || (!((access_isDegree ((ix l v).Kind)).getD default))) || (!((access_isDegree ((ix l v).Level)).getD default))) || (decide (time < (ix l v).From))) || (decide ((ix l v).Until < time))) then
        access_applies_j2 v
      else
        bif (((ix l v).Kind == r.Kind) && (decide (r.Least ≤ (ix l v).Level))) then
          some (.inr (.inr true))
        else
          access_applies_j2 v
    else
      some (.inr (.inl ()))
noncomputable def access_applies (r : api_AccessRule) (l : List api_Evidence) (candidate : Int) (time : Int) : Option Bool :=
  (iter (access_applies_l3 r l candidate time) (0 : Int)).bind fun x_ =>
  match x_ with
  | .inl () => access_applies_j1
  | .inr t_ => some t_
/-- awardingbody access.Reasons -/
noncomputable def access_Reasons_j1 (found : List Int) : Option (List Int) :=
  some found
noncomputable def access_Reasons_j2 (v : Int) (found3 : List Int) : Option ((Int × (List Int)) ⊕ (List Int)) :=
  some (.inl ((IntKind.i64.wrap (v + (1 : Int))), found3))
noncomputable def access_Reasons_l3 (rules : List api_AccessRule) (l : List api_Evidence) (candidate : Int) (time : Int) : (Int × (List Int)) → Option ((Int × (List Int)) ⊕ (List Int)) :=
  fun (v, found1) =>
    bif (decide (v < (rules.length : Int))) then
      req ((0 ≤ v ∧ v < (rules.length : Int))) <|
      (access_applies (ix rules v) l candidate time).bind fun y1 =>
      bif y1 then
        req ((found1.length + ([v]).length) * 8 ≤ 140737488355328) <|
        access_Reasons_j2 v (found1 ++ [v])
      else
        access_Reasons_j2 v found1
    else
      some (.inr found1)
noncomputable def access_Reasons (rules : List api_AccessRule) (l : List api_Evidence) (candidate : Int) (time : Int) : Option (List Int) :=
  (access_Check rules).bind fun y =>
  bif (y != (0 : Int)) then
    some ([] : List Int)
  else
    (iter (access_Reasons_l3 rules l candidate time) ((0 : Int), ([] : List Int))).bind fun found2 =>
    access_Reasons_j1 found2
/-- awardingbody access.Imply -/
noncomputable def access_Imply_j1 (a : api_Access) (a1 : Int) : Option api_Access :=
  some (api_Access.mk a.Extra a1)
noncomputable def access_Imply (a : api_Access) : Option api_Access :=
  (access_valid a).bind fun y =>
  bif (!y) then
    some (api_Access.mk (0 : Int) (0 : Int))
  else
    bif (((bAnd .i64 a.Needs (24 : Int)) != (0 : Int)) || (decide ((25 : Int) < a.Extra))) then
      access_Imply_j1 a (bOr .i64 a.Needs (1 : Int))
    else
      access_Imply_j1 a a.Needs
/-- awardingbody access.joined -/
noncomputable def access_joined_j1 (sum : Int) (sum1 : Int) : Option api_Access :=
  some (api_Access.mk sum sum1)
noncomputable def access_joined_l2 (l : List api_Access) : (Int × Int × Int) → Option ((Int × Int × Int) ⊕ (Int × Int)) :=
  fun (v, sum2, sum3) =>
    bif (decide (v < (l.length : Int))) then
      req ((0 ≤ v ∧ v < (l.length : Int))) <|
      some (.inl ((IntKind.i64.wrap (v + (1 : Int))), (imax sum2 ((ix l v).Extra)), (bOr .i64 sum3 ((ix l v).Needs))))
    else
      some (.inr (sum2, sum3))
noncomputable def access_joined (l : List api_Access) : Option api_Access :=
  (iter (access_joined_l2 l) ((0 : Int), (0 : Int), (0 : Int))).bind fun (sum4, sum5) =>
  access_joined_j1 sum4 sum5
/-- awardingbody access.Grant -/
noncomputable def access_Grant_j1 (granted : List api_Access) : Option (api_Access × Int) :=
  (access_joined granted).bind fun y1 =>
  (access_Imply y1).bind fun y2 =>
  some (y2, (0 : Int))
noncomputable def access_Grant_l2 (rules : List api_AccessRule) (y3 : List Int) : (Int × (List api_Access)) → Option ((Int × (List api_Access)) ⊕ (List api_Access)) :=
  fun (v, granted1) =>
    bif (decide (v < (y3.length : Int))) then
      req ((0 ≤ v ∧ v < (y3.length : Int))) <|
      req ((0 ≤ (ix y3 v) ∧ (ix y3 v) < (rules.length : Int)) ∧ (granted1.length + ([(api_Access.mk ((ix rules (ix y3 v)).Extra) ((ix rules (ix y3 v)).Needs))]).length) * 16 ≤ 140737488355328) <|
      bindV (granted1 ++ [(api_Access.mk ((ix rules (ix y3 v)).Extra) ((ix rules (ix y3 v)).Needs))]) fun granted3 =>
      some (.inl ((IntKind.i64.wrap (v + (1 : Int))), granted3))
    else
      some (.inr granted1)
noncomputable def access_Grant (rules : List api_AccessRule) (l : List api_Evidence) (candidate : Int) (time : Int) : Option (api_Access × Int) :=
  (access_Check rules).bind fun y =>
  bif (y != (0 : Int)) then
    some ((api_Access.mk (0 : Int) (0 : Int)), y)
  else
    (access_Reasons rules l candidate time).bind fun y3 =>
    (iter (access_Grant_l2 rules y3) ((0 : Int), ([] : List api_Access))).bind fun granted2 =>
    access_Grant_j1 granted2
/-- awardingbody access.Minutes -/
noncomputable def access_Minutes_j1 (minutes1 : Int) : Option (Int × Int) :=
  some (minutes1, (0 : Int))
noncomputable def access_Minutes (base : Int) (a : api_Access) : Option (Int × Int) :=
  (access_valid a).bind fun y =>
  bif (!y) then
    some ((0 : Int), (1 : Int))
  else
    bif ((decide (base < (1 : Int))) || (decide ((600 : Int) < base))) then
      some ((0 : Int), (2 : Int))
    else
      bindV (IntKind.i64.wrap (base + (IntKind.i64.wrap (Int.tdiv (IntKind.i64.wrap ((IntKind.i64.wrap (base * a.Extra)) + (99 : Int))) (100 : Int))))) fun minutes =>
      bif ((bAnd .i64 a.Needs (32 : Int)) != (0 : Int)) then
        bindV (IntKind.i64.wrap (minutes + (IntKind.i64.wrap ((5 : Int) * (IntKind.i64.wrap (Int.tdiv (IntKind.i64.wrap ((IntKind.i64.wrap (base + (30 : Int))) - (1 : Int))) (30 : Int))))))) fun minutes2 =>
        access_Minutes_j1 minutes2
      else
        access_Minutes_j1 minutes
/-- awardingbody awardingbodylaw14.awake -/
noncomputable def law14_awake  : Option Bool :=
  (access_Grant ([(api_AccessRule.mk (1 : Int) (5 : Int) (25 : Int) (0 : Int)), (api_AccessRule.mk (2 : Int) (3 : Int) (0 : Int) (16 : Int))]) ([(api_Evidence.mk (1 : Int) (1 : Int) (6 : Int) (0 : Int) (9 : Int)), (api_Evidence.mk (1 : Int) (2 : Int) (3 : Int) (0 : Int) (9 : Int))]) (1 : Int) (5 : Int)).bind fun (y, y1) =>
  (access_Minutes (90 : Int) (api_Access.mk (25 : Int) (32 : Int))).bind fun (y2, y3) =>
  some ((((y1 == (0 : Int)) && ((y.Extra == (25 : Int)) && (y.Needs == (17 : Int)))) && (y3 == (0 : Int))) && (y2 == (128 : Int)))
/-- awardingbody awardingbodylaw14.AccessChecks -/
noncomputable def law14_AccessChecks (t : List Int) (kind : Int) (least : Int) (extra : Int) (needs : Int) : Option Bool :=
  (make_New t).bind fun y =>
  (make_Tape_Rules y (3 : Int)).bind fun (y1, y2) =>
  req ((0 ≤ (y1.length : Int) ∧ (y1.length : Int) ≤ (y1.length : Int)) ∧ (y1.length + ([(api_AccessRule.mk kind least extra needs)]).length) * 32 ≤ 140737488355328) <|
  (access_Check y1).bind fun y3 =>
  (ref14_Check y1).bind fun y4 =>
  req (((y3 == y4) = true → (access_Check (y1 ++ [(api_AccessRule.mk kind least extra needs)])).isSome = true) ∧ ((y3 == y4) = true → (ref14_Check (y1 ++ [(api_AccessRule.mk kind least extra needs)])).isSome = true) ∧ (((y3 == y4) && (((access_Check (y1 ++ [(api_AccessRule.mk kind least extra needs)])).getD default) == ((ref14_Check (y1 ++ [(api_AccessRule.mk kind least extra needs)])).getD default))) = true → (law14_awake).isSome = true)) <|
  some (((y3 == y4) && (((access_Check (y1 ++ [(api_AccessRule.mk kind least extra needs)])).getD default) == ((ref14_Check (y1 ++ [(api_AccessRule.mk kind least extra needs)])).getD default))) && ((law14_awake).getD default))
/-- awardingbody awardingbodylaw14.AccessMany -/
noncomputable def law14_AccessMany_j1 (rules : List api_AccessRule) (want : Int) : Option Bool :=
  (access_Check rules).bind fun y =>
  req (((y == want) = true → (law14_awake).isSome = true)) <|
  some ((y == want) && ((law14_awake).getD default))
noncomputable def law14_AccessMany_j2 (rules : List api_AccessRule) : Option Bool :=
  bif (decide ((12 : Int) < (rules.length : Int))) then
    law14_AccessMany_j1 rules (3 : Int)
  else
    law14_AccessMany_j1 rules (0 : Int)
noncomputable def law14_AccessMany_l3  : (Int × (List api_AccessRule)) → Option ((Int × (List api_AccessRule)) ⊕ (List api_AccessRule)) :=
  fun (i, rules1) =>
    bif (decide ((0 : Int) < i)) then
      req ((rules1.length + ([(api_AccessRule.mk (1 : Int) (1 : Int) (0 : Int) (0 : Int))]).length) * 32 ≤ 140737488355328) <|
      bindV (rules1 ++ [(api_AccessRule.mk (1 : Int) (1 : Int) (0 : Int) (0 : Int))]) fun rules3 =>
      some (.inl ((IntKind.i64.wrap (i - (1 : Int))), rules3))
    else
      some (.inr rules1)
noncomputable def law14_AccessMany (n : Int) : Option Bool :=
  (make_Cut n (5 : Int)).bind fun y1 =>
  (iter (law14_AccessMany_l3) ((IntKind.i64.wrap ((10 : Int) + y1)), ([] : List api_AccessRule))).bind fun rules2 =>
  law14_AccessMany_j2 rules2
/-- (ptr awardingbody awardingbodymake.Tape).Wild -/
noncomputable def make_Tape_Wild (t : make_Tape) : Option (Int × make_Tape) :=
  (make_Tape_Pick t ([(-1 : Int), (0 : Int), (1 : Int), (2 : Int), (31 : Int), (32 : Int), (99 : Int), (100 : Int), (200 : Int), (201 : Int), (9999 : Int), (10000 : Int), (1000000 : Int), (1000001 : Int), (1152921504606846976 : Int), (1152921504606846977 : Int), (-1152921504606846976 : Int), (9223372036854775807 : Int), (-9223372036854775808 : Int)])).bind fun (y, y1) =>
  some (y, y1)
/-- (ptr awardingbody awardingbodymake.Tape).Spoil -/
noncomputable def make_Tape_Spoil (t : make_Tape) (x : Int) (n : Int) : Option (Int × make_Tape) :=
  bif (decide ((0 : Int) < n)) then
    (make_Tape_One t n).bind fun (y, y1) =>
    bif y then
      (make_Tape_Wild y1).bind fun (y2, y3) =>
      some (y2, y3)
    else
      some (x, y1)
  else
    some (x, t)
/-- (ptr awardingbody awardingbodymake.Tape).Evidence -/
noncomputable def make_Tape_Evidence_j1 (t1 : List Int) (t2 : Int) (out : List api_Evidence) : Option ((List api_Evidence) × make_Tape) :=
  some (out, (make_Tape.mk t1 t2))
noncomputable def make_Tape_Evidence_l2  : (Int × (List Int) × Int × (List api_Evidence)) → Option ((Int × (List Int) × Int × (List api_Evidence)) ⊕ ((List Int) × Int × (List api_Evidence))) :=
  fun (i, t3, t4, out1) =>
    bif (decide ((0 : Int) < i)) then
      (make_Tape_Range (make_Tape.mk t3 t4) (0 : Int) (20 : Int)).bind fun (y2, y3) =>
      (make_Tape_Next y3 (2 : Int)).bind fun (y4, y5) =>
      (make_Tape_Range y5 (1 : Int) (3 : Int)).bind fun (y6, y7) =>
      (make_Tape_Spoil y7 y6 (10 : Int)).bind fun (y8, y9) =>
      (make_Tape_Range y9 (1 : Int) (9 : Int)).bind fun (y10, y11) =>
      (make_Tape_Spoil y11 y10 (10 : Int)).bind fun (y12, y13) =>
      (make_Tape_Range y13 (-1 : Int) (12 : Int)).bind fun (y14, y15) =>
      req ((out1.length + ([(api_Evidence.mk y4 y8 y12 y2 (IntKind.i64.wrap (y2 + y14)))]).length) * 40 ≤ 140737488355328) <|
      bindV (out1 ++ [(api_Evidence.mk y4 y8 y12 y2 (IntKind.i64.wrap (y2 + y14)))]) fun out3 =>
      some (.inl ((IntKind.i64.wrap (i - (1 : Int))), y15.L, y15.At, out3))
    else
      some (.inr (t3, t4, out1))
noncomputable def make_Tape_Evidence (t : make_Tape) : Option ((List api_Evidence) × make_Tape) :=
  (make_Tape_Next t (7 : Int)).bind fun (y, y1) =>
  (iter (make_Tape_Evidence_l2) (y, y1.L, y1.At, ([] : List api_Evidence))).bind fun (t5, t6, out2) =>
  make_Tape_Evidence_j1 t5 t6 out2
/-- awardingbody awardingbodyref14.Join -/
noncomputable def ref14_Join (a : api_Access) (b : api_Access) : Option api_Access :=
  (ref14_Valid a).bind fun y =>
  req (((!(!y)) = true → (ref14_Valid b).isSome = true)) <|
  bif ((!y) || (!((ref14_Valid b).getD default))) then
    some (api_Access.mk (0 : Int) (0 : Int))
  else
    some (api_Access.mk (imax a.Extra b.Extra) (bOr .i64 a.Needs b.Needs))
/-- awardingbody awardingbodyref14.Imply -/
noncomputable def ref14_Imply_j1 (a : api_Access) (a1 : Int) : Option api_Access :=
  some (api_Access.mk a.Extra a1)
noncomputable def ref14_Imply (a : api_Access) : Option api_Access :=
  (ref14_Valid a).bind fun y =>
  bif (!y) then
    some (api_Access.mk (0 : Int) (0 : Int))
  else
    bif ((((bAnd .i64 a.Needs (8 : Int)) != (0 : Int)) || ((bAnd .i64 a.Needs (16 : Int)) != (0 : Int))) || (decide ((25 : Int) < a.Extra))) then
      ref14_Imply_j1 a (bOr .i64 a.Needs (1 : Int))
    else
      ref14_Imply_j1 a a.Needs
end Go.LS
