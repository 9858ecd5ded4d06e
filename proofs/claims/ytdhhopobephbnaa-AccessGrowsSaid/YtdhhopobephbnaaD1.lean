/-
  Plain functions that the program's functions compute. No condition: definitions, printed by dec.py.
-/
import Derived.Test.YtdhhopobephbnaaD0
namespace Go.LS
set_option linter.all false
set_option linter.unusedSimpArgs false
set_option linter.unusedVariables false
set_option maxRecDepth 20000

/-- awardingbody awardingbodymake.New -/
noncomputable def make_New_j1 (l1 : List Int) : Option make_Tape :=
  some (make_Tape.mk l1 (0 : Int))
noncomputable def make_New (l : List Int) : Option make_Tape :=
  bif (decide ((600 : Int) < (l.length : Int))) then
    req ((0 ≤ (600 : Int) ∧ (600 : Int) ≤ (l.length : Int))) <|
    make_New_j1 (List.take (600 : Int).toNat l)
  else
    make_New_j1 l
/-- awardingbody awardingbodymake.Cut -/
noncomputable def make_Cut_j1 (x1 : Int) : Option Int :=
  some x1
noncomputable def make_Cut (x : Int) (n : Int) : Option Int :=
  bif (decide (n < (1 : Int))) then
    some (0 : Int)
  else
    req (n ≠ 0) <|
    bif (decide ((Int.tmod x n) < (0 : Int))) then
      make_Cut_j1 (IntKind.i64.wrap ((Int.tmod x n) + n))
    else
      make_Cut_j1 (Int.tmod x n)
/-- (ptr awardingbody awardingbodymake.Tape).Raw -/
noncomputable def make_Tape_Raw (t : make_Tape) : Option (Int × make_Tape) :=
  bif (decide ((t.L.length : Int) ≤ t.At)) then
    some ((0 : Int), t)
  else
    req ((0 ≤ (IntKind.i64.wrap ((IntKind.i64.wrap (t.At + (1 : Int))) - (1 : Int))) ∧ (IntKind.i64.wrap ((IntKind.i64.wrap (t.At + (1 : Int))) - (1 : Int))) < (t.L.length : Int))) <|
    bindV (ix t.L (IntKind.i64.wrap ((IntKind.i64.wrap (t.At + (1 : Int))) - (1 : Int)))) fun v =>
    some (v, (make_Tape.mk t.L (IntKind.i64.wrap (t.At + (1 : Int)))))
/-- (ptr awardingbody awardingbodymake.Tape).Next -/
noncomputable def make_Tape_Next (t : make_Tape) (n : Int) : Option (Int × make_Tape) :=
  (make_Tape_Raw t).bind fun (y, y1) =>
  (make_Cut y n).bind fun y2 =>
  some (y2, y1)
/-- (ptr awardingbody awardingbodymake.Tape).Range -/
noncomputable def make_Tape_Range (t : make_Tape) (low : Int) (high : Int) : Option (Int × make_Tape) :=
  (make_Tape_Next t (IntKind.i64.wrap ((IntKind.i64.wrap (high - low)) + (1 : Int)))).bind fun (y, y1) =>
  some ((IntKind.i64.wrap (low + y)), y1)
/-- (ptr awardingbody awardingbodymake.Tape).Pick -/
noncomputable def make_Tape_Pick (t : make_Tape) (l : List Int) : Option (Int × make_Tape) :=
  (make_Tape_Next t (l.length : Int)).bind fun (y, y1) =>
  req ((0 ≤ y ∧ y < (l.length : Int))) <|
  some ((ix l y), y1)
/-- (ptr awardingbody awardingbodymake.Tape).One -/
noncomputable def make_Tape_One (t : make_Tape) (n : Int) : Option (Bool × make_Tape) :=
  (make_Tape_Next t n).bind fun (y, y1) =>
  some ((y == (IntKind.i64.wrap (n - (1 : Int)))), y1)
/-- (ptr awardingbody awardingbodymake.Tape).Rules -/
noncomputable def make_Tape_Rules_j1 (t3 : List Int) (t4 : Int) (out1 : List api_AccessRule) : Option ((List api_AccessRule) × make_Tape) :=
  some (out1, (make_Tape.mk t3 t4))
noncomputable def make_Tape_Rules_j2 (n : Int) (t1 : List Int) (t2 : Int) (out : List api_AccessRule) : Option ((List api_AccessRule) × make_Tape) :=
  bif (decide ((0 : Int) < n)) then
    (make_Tape_One (make_Tape.mk t1 t2) n).bind fun (y, y1) =>
    bif y then
      (make_Tape_Pick y1 ([(0 : Int), (1 : Int), (9 : Int), (10 : Int)])).bind fun (y2, y3) =>
      (make_Tape_Pick y3 ([(0 : Int), (1 : Int), (9 : Int), (10 : Int)])).bind fun (y4, y5) =>
      (make_Tape_Pick y5 ([(-1 : Int), (0 : Int), (100 : Int), (101 : Int)])).bind fun (y6, y7) =>
      (make_Tape_Pick y7 ([(-1 : Int), (0 : Int), (63 : Int), (64 : Int)])).bind fun (y8, y9) =>
      req ((out.length + ([(api_AccessRule.mk y2 y4 y6 y8)]).length) * 32 ≤ 140737488355328) <|
      make_Tape_Rules_j1 y9.L y9.At (out ++ [(api_AccessRule.mk y2 y4 y6 y8)])
    else
      make_Tape_Rules_j1 y1.L y1.At out
  else
    make_Tape_Rules_j1 t1 t2 out
noncomputable def make_Tape_Rules_l3  : (Int × (List Int) × Int × (List api_AccessRule)) → Option ((Int × (List Int) × Int × (List api_AccessRule)) ⊕ ((List Int) × Int × (List api_AccessRule))) :=
  fun (i, t5, t6, out2) =>
    bif (decide ((0 : Int) < i)) then
      (make_Tape_Range (make_Tape.mk t5 t6) (1 : Int) (3 : Int)).bind fun (y20, y21) =>
      (make_Tape_Range y21 (1 : Int) (9 : Int)).bind fun (y22, y23) =>
      (make_Tape_Pick y23 ([(0 : Int), (10 : Int), (25 : Int), (26 : Int), (50 : Int), (100 : Int)])).bind fun (y24, y25) =>
      (make_Tape_Pick y25 ([(0 : Int), (2 : Int), (4 : Int), (8 : Int), (16 : Int), (32 : Int), (6 : Int), (63 : Int)])).bind fun (y26, y27) =>
      req ((out2.length + ([(api_AccessRule.mk y20 y22 y24 y26)]).length) * 32 ≤ 140737488355328) <|
      some (.inl ((IntKind.i64.wrap (i - (1 : Int))), y27.L, y27.At, (out2 ++ [(api_AccessRule.mk y20 y22 y24 y26)])))
    else
      some (.inr (t5, t6, out2))
noncomputable def make_Tape_Rules (t : make_Tape) (n : Int) : Option ((List api_AccessRule) × make_Tape) :=
  (make_Tape_Next t (6 : Int)).bind fun (y18, y19) =>
  (iter (make_Tape_Rules_l3) (y18, y19.L, y19.At, ([] : List api_AccessRule))).bind fun (t7, t8, out3) =>
  make_Tape_Rules_j2 n t7 t8 out3
/-- awardingbody access.isDegree -/
noncomputable def access_isDegree (n : Int) : Option Bool :=
  some ((decide ((1 : Int) ≤ n)) && (decide (n ≤ (9 : Int))))
/-- awardingbody access.valid -/
noncomputable def access_valid (a : api_Access) : Option Bool :=
  some ((((decide ((0 : Int) ≤ a.Extra)) && (decide (a.Extra ≤ (100 : Int)))) && (decide ((0 : Int) ≤ a.Needs))) && (decide (a.Needs ≤ (63 : Int))))
/-- awardingbody access.Check -/
noncomputable def access_Check_j1  : Option Int :=
  some (0 : Int)
noncomputable def access_Check_l2 (rules : List api_AccessRule) : Int → Option (Int ⊕ (Unit ⊕ Int)) :=
  fun v =>
    bif (decide (v < (rules.length : Int))) then
      req ((0 ≤ v ∧ v < (rules.length : Int))) <|
      (access_isDegree ((ix rules v).Kind)).bind fun y =>
      req (((!(!y)) = true → (access_isDegree ((ix rules v).Least)).isSome = true) ∧ ((!((!y) || (!((access_isDegree ((ix rules v).Least)).getD default)))) = true → (access_valid (api_Access.mk ((ix rules v).Extra) ((ix rules v).Needs))).isSome = true)) <|
      bif (((!y) || (!((access_isDegree ((ix rules v).Least)).getD default))) || (!((access_valid (api_Access.mk ((ix rules v).Extra) ((ix rules v).Needs))).getD default))) then
        some (.inr (.inr (2 : Int)))
      else
        some (.inl (IntKind.i64.wrap (v + (1 : Int))))
    else
      some (.inr (.inl ()))
noncomputable def access_Check (rules : List api_AccessRule) : Option Int :=
  bif (decide ((12 : Int) < (rules.length : Int))) then
    some (3 : Int)
  else
    (iter (access_Check_l2 rules) (0 : Int)).bind fun x_ =>
    match x_ with
    | .inl () => access_Check_j1
    | .inr t_ => some t_
/-- awardingbody awardingbodyref14.level -/
noncomputable def ref14_level (n : Int) : Option Bool :=
  some ((decide ((1 : Int) ≤ n)) && (decide (n ≤ (9 : Int))))
/-- awardingbody awardingbodyref14.Valid -/
noncomputable def ref14_Valid (a : api_Access) : Option Bool :=
  some ((((decide ((0 : Int) ≤ a.Extra)) && (decide (a.Extra ≤ (100 : Int)))) && (decide ((0 : Int) ≤ a.Needs))) && (decide (a.Needs ≤ (63 : Int))))
/-- awardingbody awardingbodyref14.Check -/
noncomputable def ref14_Check_j1  : Option Int :=
  some (0 : Int)
noncomputable def ref14_Check_l2 (rules : List api_AccessRule) : Int → Option (Int ⊕ (Unit ⊕ Int)) :=
  fun i =>
    bif (decide (i < (rules.length : Int))) then
      req ((0 ≤ i ∧ i < (rules.length : Int))) <|
      (ref14_level ((ix rules i).Kind)).bind fun y =>
      req (((!(!y)) = true → (ref14_level ((ix rules i).Least)).isSome = true) ∧ ((!((!y) || (!((ref14_level ((ix rules i).Least)).getD default)))) = true → (ref14_Valid (api_Access.mk ((ix rules i).Extra) ((ix rules i).Needs))).isSome = true)) <|
      bif (((!y) || (!((ref14_level ((ix rules i).Least)).getD default))) || (!((ref14_Valid (api_Access.mk ((ix rules i).Extra) ((ix rules i).Needs))).getD default))) then
        some (.inr (.inr (2 : Int)))
      else
        some (.inl (IntKind.i64.wrap (i + (1 : Int))))
    else
      some (.inr (.inl ()))
noncomputable def ref14_Check (rules : List api_AccessRule) : Option Int :=
  bif (decide ((12 : Int) < (rules.length : Int))) then
    some (3 : Int)
  else
    (iter (ref14_Check_l2 rules) (0 : Int)).bind fun x_ =>
    match x_ with
    | .inl () => ref14_Check_j1
    | .inr t_ => some t_
end Go.LS
