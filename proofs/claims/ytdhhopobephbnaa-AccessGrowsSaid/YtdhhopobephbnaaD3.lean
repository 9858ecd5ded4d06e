/-
  Plain functions that the program's functions compute. No condition: definitions, printed by dec.py.
-/
import Derived.Test.YtdhhopobephbnaaD2
namespace Go.LS
set_option linter.all false
set_option linter.unusedSimpArgs false
set_option linter.unusedVariables false
set_option maxRecDepth 20000

/-- awardingbody awardingbodyref14.applies -/
noncomputable def ref14_applies_j1  : Option Bool :=
  some false
noncomputable def ref14_applies_l2 (r : api_AccessRule) (l : List api_Evidence) (candidate : Int) (time : Int) : Int → Option (Int ⊕ (Unit ⊕ Bool)) :=
  fun i =>
    bif (decide (i < (l.length : Int))) then
      req ((0 ≤ i ∧ i < (l.length : Int))) <|
      req ((((ix l i).Candidate == candidate) = true → (ref14_level ((ix l i).Kind)).isSome = true) ∧ ((((ix l i).Candidate == candidate) && ((ref14_level ((ix l i).Kind)).getD default)) = true → (ref14_level ((ix l i).Level)).isSome = true)) <|
      bif ((((((((ix l i).Candidate == candidate) && ((ref14_level ((ix l i).Kind)).getD default)) && ((ref14_level ((ix l i).Level)).getD default)) && (decide ((ix l i).From ≤ time))) && (decide (time ≤ (ix l i).Until))) && ((ix l i).Kind == r.Kind)) && (decide (r.Least ≤ (ix l i).Level))) then
        some (.inr (.inr true))
      else
        some (.inl (IntKind.i64.wrap (i + (1 : Int))))
    else
      some (.inr (.inl ()))
noncomputable def ref14_applies (r : api_AccessRule) (l : List api_Evidence) (candidate : Int) (time : Int) : Option Bool :=
  (iter (ref14_applies_l2 r l candidate time) (0 : Int)).bind fun x_ =>
  match x_ with
  | .inl () => ref14_applies_j1
  | .inr t_ => some t_
/-- awardingbody awardingbodyref14.Grant -/
noncomputable def ref14_Grant_j1 (a : Int) (a1 : Int) : Option (api_Access × Int) :=
  (ref14_Imply (api_Access.mk a a1)).bind fun y1 =>
  some (y1, (0 : Int))
noncomputable def ref14_Grant_j2 (i : Int) (a6 : Int) (a7 : Int) : Option ((Int × Int × Int) ⊕ (Int × Int)) :=
  some (.inl ((IntKind.i64.wrap (i + (1 : Int))), a6, a7))
noncomputable def ref14_Grant_l3 (rules : List api_AccessRule) (l : List api_Evidence) (candidate : Int) (time : Int) : (Int × Int × Int) → Option ((Int × Int × Int) ⊕ (Int × Int)) :=
  fun (i, a2, a3) =>
    bif (decide (i < (rules.length : Int))) then
      req ((0 ≤ i ∧ i < (rules.length : Int))) <|
      (ref14_applies (ix rules i) l candidate time).bind fun y2 =>
      bif y2 then
        req ((0 ≤ i ∧ i < (rules.length : Int))) <|
        (ref14_Join (api_Access.mk a2 a3) (api_Access.mk ((ix rules i).Extra) ((ix rules i).Needs))).bind fun y3 =>
        ref14_Grant_j2 i y3.Extra y3.Needs
      else
        ref14_Grant_j2 i a2 a3
    else
      some (.inr (a2, a3))
noncomputable def ref14_Grant (rules : List api_AccessRule) (l : List api_Evidence) (candidate : Int) (time : Int) : Option (api_Access × Int) :=
  (ref14_Check rules).bind fun y =>
  bif (y != (0 : Int)) then
    some ((api_Access.mk (0 : Int) (0 : Int)), y)
  else
    (iter (ref14_Grant_l3 rules l candidate time) ((0 : Int), (0 : Int), (0 : Int))).bind fun (a4, a5) =>
    ref14_Grant_j1 a4 a5
/-- awardingbody awardingbodyref06.Ints -/
noncomputable def ref06_Ints_j1  : Option Bool :=
  some true
noncomputable def ref06_Ints_l2 (a : List Int) (b : List Int) : Int → Option (Int ⊕ (Unit ⊕ Bool)) :=
  fun i =>
    bif (decide (i < (a.length : Int))) then
      req ((0 ≤ i ∧ i < (a.length : Int)) ∧ (0 ≤ i ∧ i < (b.length : Int))) <|
      bif ((ix a i) != (ix b i)) then
        some (.inr (.inr false))
      else
        some (.inl (IntKind.i64.wrap (i + (1 : Int))))
    else
      some (.inr (.inl ()))
noncomputable def ref06_Ints (a : List Int) (b : List Int) : Option Bool :=
  bif ((a.length : Int) != (b.length : Int)) then
    some false
  else
    (iter (ref06_Ints_l2 a b) (0 : Int)).bind fun x_ =>
    match x_ with
    | .inl () => ref06_Ints_j1
    | .inr t_ => some t_
/-- awardingbody awardingbodyref14.Reasons -/
noncomputable def ref14_Reasons_j1 (out : List Int) : Option (List Int) :=
  some out
noncomputable def ref14_Reasons_j2 (i : Int) (out3 : List Int) : Option ((Int × (List Int)) ⊕ (List Int)) :=
  some (.inl ((IntKind.i64.wrap (i + (1 : Int))), out3))
noncomputable def ref14_Reasons_l3 (rules : List api_AccessRule) (l : List api_Evidence) (candidate : Int) (time : Int) : (Int × (List Int)) → Option ((Int × (List Int)) ⊕ (List Int)) :=
  fun (i, out1) =>
    bif (decide (i < (rules.length : Int))) then
      req ((0 ≤ i ∧ i < (rules.length : Int))) <|
      (ref14_applies (ix rules i) l candidate time).bind fun y1 =>
      bif y1 then
        req ((out1.length + ([i]).length) * 8 ≤ 140737488355328) <|
        ref14_Reasons_j2 i (out1 ++ [i])
      else
        ref14_Reasons_j2 i out1
    else
      some (.inr out1)
noncomputable def ref14_Reasons (rules : List api_AccessRule) (l : List api_Evidence) (candidate : Int) (time : Int) : Option (List Int) :=
  (ref14_Check rules).bind fun y =>
  bif (y != (0 : Int)) then
    some ([] : List Int)
  else
    (iter (ref14_Reasons_l3 rules l candidate time) ((0 : Int), ([] : List Int))).bind fun out2 =>
    ref14_Reasons_j1 out2
/-- awardingbody awardingbodylaw14.AccessGrants -/
noncomputable def law14_AccessGrants_j1  : Option Bool :=
  (law14_awake).bind fun y5 =>
  some y5
noncomputable def law14_AccessGrants_l2 (y1 : List api_AccessRule) (y3 : List api_Evidence) : (Int × Int × (List Int) × Int) → Option ((Int × Int × (List Int) × Int) ⊕ (Unit ⊕ Bool)) :=
  fun (time1, i, w, w1) =>
    bif (decide (i < (2 : Int))) then
      (access_Grant y1 y3 i time1).bind fun (y6, y7) =>
      (ref14_Grant y1 y3 i time1).bind fun (y8, y9) =>
      req (((!((!((y6.Extra == y8.Extra) && (y6.Needs == y8.Needs))) || (y7 != y9))) = true → (access_Reasons y1 y3 i time1).isSome = true) ∧ ((!((!((y6.Extra == y8.Extra) && (y6.Needs == y8.Needs))) || (y7 != y9))) = true → (ref14_Reasons y1 y3 i time1).isSome = true) ∧ ((!((!((y6.Extra == y8.Extra) && (y6.Needs == y8.Needs))) || (y7 != y9))) = true → (ref06_Ints ((access_Reasons y1 y3 i time1).getD default) ((ref14_Reasons y1 y3 i time1).getD default)).isSome = true)) <|
      bif (((!((y6.Extra == y8.Extra) && (y6.Needs == y8.Needs))) || (y7 != y9)) || (!((ref06_Ints ((access_Reasons y1 y3 i time1).getD default) ((ref14_Reasons y1 y3 i time1).getD default)).getD default))) then
        some (.inr (.inr false))
      else
        (make_Tape_Range (make_Tape.mk w w1) (0 : Int) (30 : Int)).bind fun (y10, y11) =>
        some (.inl (y10, (IntKind.i64.wrap (i + (1 : Int))), y11.L, y11.At))
    else
      some (.inr (.inl ()))
noncomputable def law14_AccessGrants (t : List Int) (time : Int) : Option Bool :=
  (make_New t).bind fun y =>
  (make_Tape_Rules y (8 : Int)).bind fun (y1, y2) =>
  (make_Tape_Evidence y2).bind fun (y3, y4) =>
  (iter (law14_AccessGrants_l2 y1 y3) (time, (0 : Int), y4.L, y4.At)).bind fun x_ =>
  match x_ with
  | .inl () => law14_AccessGrants_j1
  | .inr t_ => some t_
/-- awardingbody awardingbodyref14.Minutes -/
noncomputable def ref14_Minutes_j1 (n1 : Int) : Option (Int × Int) :=
  some (n1, (0 : Int))
noncomputable def ref14_Minutes (base : Int) (a : api_Access) : Option (Int × Int) :=
  (ref14_Valid a).bind fun y =>
  bif (!y) then
    some ((0 : Int), (1 : Int))
  else
    bif ((decide (base < (1 : Int))) || (decide ((600 : Int) < base))) then
      some ((0 : Int), (2 : Int))
    else
      bindV (IntKind.i64.wrap (base + (IntKind.i64.wrap (Int.tdiv (IntKind.i64.wrap ((IntKind.i64.wrap (base * a.Extra)) + (99 : Int))) (100 : Int))))) fun n =>
      bif ((bAnd .i64 a.Needs (32 : Int)) != (0 : Int)) then
        bindV (IntKind.i64.wrap (n + (IntKind.i64.wrap ((5 : Int) * (IntKind.i64.wrap (Int.tdiv (IntKind.i64.wrap (base + (29 : Int))) (30 : Int))))))) fun n2 =>
        ref14_Minutes_j1 n2
      else
        ref14_Minutes_j1 n
/-- awardingbody awardingbodylaw14.AccessMinutes -/
noncomputable def law14_AccessMinutes (base : Int) (extra : Int) (needs : Int) : Option Bool :=
  (make_Cut extra (102 : Int)).bind fun y =>
  (make_Cut needs (65 : Int)).bind fun y1 =>
  (make_Cut base (603 : Int)).bind fun y2 =>
  (access_Minutes base (api_Access.mk extra needs)).bind fun (y3, y4) =>
  (ref14_Minutes base (api_Access.mk extra needs)).bind fun (y5, y6) =>
  (access_Minutes y2 (api_Access.mk y y1)).bind fun (y7, y8) =>
  (ref14_Minutes y2 (api_Access.mk y y1)).bind fun (y9, y10) =>
  req ((((((y3 == y5) && (y4 == y6)) && (y7 == y9)) && (y8 == y10)) = true → (law14_awake).isSome = true)) <|
  some (((((y3 == y5) && (y4 == y6)) && (y7 == y9)) && (y8 == y10)) && ((law14_awake).getD default))
/-- (ptr awardingbody awardingbodymake.Tape).Order -/
noncomputable def make_Tape_Order_j1 (out : List Int) (t1 : List Int) (t2 : Int) : Option ((List Int) × make_Tape) :=
  some (out, (make_Tape.mk t1 t2))
noncomputable def make_Tape_Order_l2 (n : Int) : ((List Int) × Int × (List Int) × Int) → Option (((List Int) × Int × (List Int) × Int) ⊕ ((List Int) × (List Int) × Int)) :=
  fun (out1, i, t3, t4) =>
    bif (decide (i < n)) then
      (make_Tape_Next (make_Tape.mk t3 t4) (IntKind.i64.wrap (i + (1 : Int)))).bind fun (y, y1) =>
      req ((0 ≤ y ∧ y ≤ (out1.length : Int)) ∧ (([] : List Int).length + (List.take y.toNat out1).length) * 8 ≤ 140737488355328) <|
      req (((([] : List Int) ++ (List.take y.toNat out1)).length + ([i]).length) * 8 ≤ 140737488355328) <|
      req ((0 ≤ y ∧ y ≤ (out1.length : Int)) ∧ (((([] : List Int) ++ (List.take y.toNat out1)) ++ [i]).length + (List.drop y.toNat out1).length) * 8 ≤ 140737488355328) <|
      bindV (((([] : List Int) ++ (List.take y.toNat out1)) ++ [i]) ++ (List.drop y.toNat out1)) fun next =>
      some (.inl (next, (IntKind.i64.wrap (i + (1 : Int))), y1.L, y1.At))
    else
      some (.inr (out1, t3, t4))
noncomputable def make_Tape_Order (t : make_Tape) (n : Int) : Option ((List Int) × make_Tape) :=
  (iter (make_Tape_Order_l2 n) (([] : List Int), (0 : Int), t.L, t.At)).bind fun (out2, t5, t6) =>
  make_Tape_Order_j1 out2 t5 t6
/-- (ptr awardingbody awardingbodymake.Tape).Mixed -/
noncomputable def make_Tape_Mixed_j1 (out : List Int) (t1 : List Int) (t2 : Int) : Option ((List Int) × make_Tape) :=
  some (out, (make_Tape.mk t1 t2))
noncomputable def make_Tape_Mixed_l2 (n : Int) : ((List Int) × Int × (List Int) × Int) → Option (((List Int) × Int × (List Int) × Int) ⊕ ((List Int) × (List Int) × Int)) :=
  fun (out1, i, t3, t4) =>
    bif ((decide ((0 : Int) < i)) && (decide ((0 : Int) < n))) then
      (make_Tape_Next (make_Tape.mk t3 t4) (IntKind.i64.wrap ((out1.length : Int) + (1 : Int)))).bind fun (y4, y5) =>
      (make_Tape_Next y5 n).bind fun (y6, y7) =>
      req ((0 ≤ y4 ∧ y4 ≤ (out1.length : Int)) ∧ (([] : List Int).length + (List.take y4.toNat out1).length) * 8 ≤ 140737488355328) <|
      req (((([] : List Int) ++ (List.take y4.toNat out1)).length + ([y6]).length) * 8 ≤ 140737488355328) <|
      req ((0 ≤ y4 ∧ y4 ≤ (out1.length : Int)) ∧ (((([] : List Int) ++ (List.take y4.toNat out1)) ++ [y6]).length + (List.drop y4.toNat out1).length) * 8 ≤ 140737488355328) <|
      bindV (((([] : List Int) ++ (List.take y4.toNat out1)) ++ [y6]) ++ (List.drop y4.toNat out1)) fun next =>
      some (.inl (next, (IntKind.i64.wrap (i - (1 : Int))), y7.L, y7.At))
    else
      some (.inr (out1, t3, t4))
noncomputable def make_Tape_Mixed (t : make_Tape) (n : Int) : Option ((List Int) × make_Tape) :=
  (make_Tape_Order t n).bind fun (y, y1) =>
  (make_Tape_Next y1 (4 : Int)).bind fun (y2, y3) =>
  (iter (make_Tape_Mixed_l2 n) (y, y2, y3.L, y3.At)).bind fun (out2, t5, t6) =>
  make_Tape_Mixed_j1 out2 t5 t6
/-- awardingbody awardingbodylaw14.AccessAnyOrder -/
noncomputable def law14_AccessAnyOrder_j1 (y1 : List api_AccessRule) (y3 : List api_Evidence) (y9 : Int) (m : List api_AccessRule) (n : List api_Evidence) : Option Bool :=
  (access_Grant y1 y3 (0 : Int) y9).bind fun (y10, y11) =>
  (access_Grant m n (0 : Int) y9).bind fun (y12, y13) =>
  req (((((y11 == (0 : Int)) && (y13 == (0 : Int))) && ((y10.Extra == y12.Extra) && (y10.Needs == y12.Needs))) = true → (law14_awake).isSome = true)) <|
  some ((((y11 == (0 : Int)) && (y13 == (0 : Int))) && ((y10.Extra == y12.Extra) && (y10.Needs == y12.Needs))) && ((law14_awake).getD default))
noncomputable def law14_AccessAnyOrder_l2 (y3 : List api_Evidence) (y7 : List Int) : (Int × (List api_Evidence)) → Option ((Int × (List api_Evidence)) ⊕ (List api_Evidence)) :=
  fun (i, n1) =>
    bif (decide (i < (y7.length : Int))) then
      req ((0 ≤ i ∧ i < (y7.length : Int)) ∧ (0 ≤ (ix y7 i) ∧ (ix y7 i) < (y3.length : Int)) ∧ (n1.length + ([(ix y3 (ix y7 i))]).length) * 40 ≤ 140737488355328) <|
      some (.inl ((IntKind.i64.wrap (i + (1 : Int))), (n1 ++ [(ix y3 (ix y7 i))])))
    else
      some (.inr n1)
noncomputable def law14_AccessAnyOrder_j3 (y1 : List api_AccessRule) (y3 : List api_Evidence) (y7 : List Int) (y9 : Int) (m : List api_AccessRule) : Option Bool :=
  (iter (law14_AccessAnyOrder_l2 y3 y7) ((0 : Int), ([] : List api_Evidence))).bind fun n2 =>
  law14_AccessAnyOrder_j1 y1 y3 y9 m n2
noncomputable def law14_AccessAnyOrder_l4 (y1 : List api_AccessRule) (y5 : List Int) : (Int × (List api_AccessRule)) → Option ((Int × (List api_AccessRule)) ⊕ (List api_AccessRule)) :=
  fun (i1, m1) =>
    bif (decide (i1 < (y5.length : Int))) then
      req ((0 ≤ i1 ∧ i1 < (y5.length : Int)) ∧ (0 ≤ (ix y5 i1) ∧ (ix y5 i1) < (y1.length : Int)) ∧ (m1.length + ([(ix y1 (ix y5 i1))]).length) * 32 ≤ 140737488355328) <|
      some (.inl ((IntKind.i64.wrap (i1 + (1 : Int))), (m1 ++ [(ix y1 (ix y5 i1))])))
    else
      some (.inr m1)
noncomputable def law14_AccessAnyOrder (t : List Int) (time : Int) : Option Bool :=
  (make_New t).bind fun y =>
  (make_Tape_Rules y (0 : Int)).bind fun (y1, y2) =>
  (make_Tape_Evidence y2).bind fun (y3, y4) =>
  (make_Tape_Order y4 (y1.length : Int)).bind fun (y5, y6) =>
  (make_Tape_Mixed y6 (y3.length : Int)).bind fun (y7, y8) =>
  (make_Cut time (30 : Int)).bind fun y9 =>
  (iter (law14_AccessAnyOrder_l4 y1 y5) ((0 : Int), ([] : List api_AccessRule))).bind fun m2 =>
  law14_AccessAnyOrder_j3 y1 y3 y7 y9 m2
/-- awardingbody awardingbodyref06.Has -/
noncomputable def ref06_Has_j1  : Option Bool :=
  some false
noncomputable def ref06_Has_l2 (l : List Int) (n : Int) : Int → Option (Int ⊕ (Unit ⊕ Bool)) :=
  fun i =>
    bif (decide (i < (l.length : Int))) then
      req ((0 ≤ i ∧ i < (l.length : Int))) <|
      bif ((ix l i) == n) then
        some (.inr (.inr true))
      else
        some (.inl (IntKind.i64.wrap (i + (1 : Int))))
    else
      some (.inr (.inl ()))
noncomputable def ref06_Has (l : List Int) (n : Int) : Option Bool :=
  (iter (ref06_Has_l2 l n) (0 : Int)).bind fun x_ =>
  match x_ with
  | .inl () => ref06_Has_j1
  | .inr t_ => some t_
/-- awardingbody awardingbodylaw14.AccessGrows -/
noncomputable def law14_AccessGrows_j1 (y8 : Int) (y9 : api_Access) (y10 : Int) (y11 : api_Access) (y12 : Int) (y13 : Int) (y14 : Int) (y15 : Int) (y16 : Int) : Option Bool :=
  req ((((((((((y10 == (0 : Int)) && (y12 == (0 : Int))) && (y14 == (0 : Int))) && (y16 == (0 : Int))) && (decide (y9.Extra ≤ y11.Extra))) && ((bAndNot .i64 y9.Needs y11.Needs) == (0 : Int))) && (decide (y13 ≤ y15))) && (decide ((IntKind.i64.wrap ((1 : Int) + y8)) ≤ y13))) = true → (law14_awake).isSome = true)) <|
  some (((((((((y10 == (0 : Int)) && (y12 == (0 : Int))) && (y14 == (0 : Int))) && (y16 == (0 : Int))) && (decide (y9.Extra ≤ y11.Extra))) && ((bAndNot .i64 y9.Needs y11.Needs) == (0 : Int))) && (decide (y13 ≤ y15))) && (decide ((IntKind.i64.wrap ((1 : Int) + y8)) ≤ y13))) && ((law14_awake).getD default))
noncomputable def law14_AccessGrows_l2 (y17 : List Int) (y18 : List Int) : Int → Option (Int ⊕ (Unit ⊕ Bool)) :=
  fun i =>
    bif (decide (i < (y17.length : Int))) then
      req ((0 ≤ i ∧ i < (y17.length : Int))) <|
      (ref06_Has y18 (ix y17 i)).bind fun y19 =>
      bif (!y19) then
        some (.inr (.inr false))
      else
        some (.inl (IntKind.i64.wrap (i + (1 : Int))))
    else
      some (.inr (.inl ()))
noncomputable def law14_AccessGrows (t : List Int) (time : Int) (base : Int) : Option Bool :=
  (make_New t).bind fun y =>
  (make_Tape_Rules y (0 : Int)).bind fun (y1, y2) =>
  (make_Tape_Evidence y2).bind fun (y3, y4) =>
  req ((0 ≤ (y3.length : Int) ∧ (y3.length : Int) ≤ (y3.length : Int))) <|
  (make_Tape_Evidence y4).bind fun (y5, y6) =>
  req ((y3.length + y5.length) * 40 ≤ 140737488355328) <|
  (make_Cut time (30 : Int)).bind fun y7 =>
  (make_Cut base (600 : Int)).bind fun y8 =>
  (access_Grant y1 y3 (1 : Int) y7).bind fun (y9, y10) =>
  (access_Grant y1 (y3 ++ y5) (1 : Int) y7).bind fun (y11, y12) =>
  (access_Minutes (IntKind.i64.wrap ((1 : Int) + y8)) y9).bind fun (y13, y14) =>
  (access_Minutes (IntKind.i64.wrap ((1 : Int) + y8)) y11).bind fun (y15, y16) =>
  (access_Reasons y1 y3 (1 : Int) y7).bind fun y17 =>
  (access_Reasons y1 (y3 ++ y5) (1 : Int) y7).bind fun y18 =>
  (iter (law14_AccessGrows_l2 y17 y18) (0 : Int)).bind fun x_ =>
  match x_ with
  | .inl () => law14_AccessGrows_j1 y8 y9 y10 y11 y12 y13 y14 y15 y16
  | .inr t_ => some t_
/-- awardingbody awardingbodylaw14.AccessOthers -/
noncomputable def law14_AccessOthers (t : List Int) (time : Int) : Option Bool :=
  (make_New t).bind fun y =>
  (make_Tape_Rules y (0 : Int)).bind fun (y1, y2) =>
  (make_Tape_Evidence y2).bind fun (y3, y4) =>
  (make_Cut time (30 : Int)).bind fun y5 =>
  req ((0 ≤ (y3.length : Int) ∧ (y3.length : Int) ≤ (y3.length : Int)) ∧ (y3.length + ([(api_Evidence.mk (1 : Int) (1 : Int) (9 : Int) (0 : Int) (99 : Int)), (api_Evidence.mk (0 : Int) (1 : Int) (9 : Int) (IntKind.i64.wrap (y5 + (1 : Int))) (99 : Int)), (api_Evidence.mk (0 : Int) (1 : Int) (10 : Int) (0 : Int) (99 : Int)), (api_Evidence.mk (0 : Int) (10 : Int) (9 : Int) (0 : Int) (99 : Int)), (api_Evidence.mk (0 : Int) (1 : Int) (9 : Int) (-9 : Int) (IntKind.i64.wrap (y5 - (1 : Int))))]).length) * 40 ≤ 140737488355328) <|
  bindV (y3 ++ [(api_Evidence.mk (1 : Int) (1 : Int) (9 : Int) (0 : Int) (99 : Int)), (api_Evidence.mk (0 : Int) (1 : Int) (9 : Int) (IntKind.i64.wrap (y5 + (1 : Int))) (99 : Int)), (api_Evidence.mk (0 : Int) (1 : Int) (10 : Int) (0 : Int) (99 : Int)), (api_Evidence.mk (0 : Int) (10 : Int) (9 : Int) (0 : Int) (99 : Int)), (api_Evidence.mk (0 : Int) (1 : Int) (9 : Int) (-9 : Int) (IntKind.i64.wrap (y5 - (1 : Int))))]) fun more =>
  (access_Grant y1 y3 (0 : Int) y5).bind fun (y6, y7) =>
  (access_Grant y1 more (0 : Int) y5).bind fun (y8, y9) =>
  req (((((y7 == (0 : Int)) && (y9 == (0 : Int))) && ((y6.Extra == y8.Extra) && (y6.Needs == y8.Needs))) = true → (law14_awake).isSome = true)) <|
  some ((((y7 == (0 : Int)) && (y9 == (0 : Int))) && ((y6.Extra == y8.Extra) && (y6.Needs == y8.Needs))) && ((law14_awake).getD default))
/-- awardingbody access.Join -/
noncomputable def access_Join (a : api_Access) (b : api_Access) : Option api_Access :=
  (access_valid a).bind fun y =>
  req (((!(!y)) = true → (access_valid b).isSome = true)) <|
  bif ((!y) || (!((access_valid b).getD default))) then
    some (api_Access.mk (0 : Int) (0 : Int))
  else
    (access_joined ([a, b])).bind fun y1 =>
    some y1
end Go.LS
