/-
  Plain functions that the program's functions compute. No condition: definitions, printed by dec.py.
-/
import Derived.Test.YtmgjidfafnajnaaDoorD0
namespace Go.LS
set_option linter.all false
set_option linter.unusedSimpArgs false
set_option linter.unusedVariables false
set_option maxRecDepth 20000

/-- awardingbody rscode.Distance -/
noncomputable def rscode_Distance_j1 (differing : Int) : Option Int :=
  some differing
noncomputable def rscode_Distance_j2 (v : Int) (differing3 : Int) : Option ((Int × Int) ⊕ Int) :=
  some (.inl (differing3, (IntKind.i64.wrap (v + (1 : Int)))))
noncomputable def rscode_Distance_l3 (a : List Int) (b : List Int) : (Int × Int) → Option ((Int × Int) ⊕ Int) :=
  fun (differing1, v) =>
    bif (decide (v < (a.length : Int))) then
      req ((0 ≤ v ∧ v < (a.length : Int)) ∧ (0 ≤ v ∧ v < (b.length : Int))) <|
      bif ((ix a v) != (ix b v)) then
        rscode_Distance_j2 v (IntKind.i64.wrap (differing1 + (1 : Int)))
      else
        rscode_Distance_j2 v differing1
    else
      some (.inr differing1)
noncomputable def rscode_Distance (a : List Int) (b : List Int) : Option Int :=
  bif ((a.length : Int) != (b.length : Int)) then
    some (-1 : Int)
  else
    (iter (rscode_Distance_l3 a b) ((0 : Int), (0 : Int))).bind fun differing2 =>
    rscode_Distance_j1 differing2
/-- awardingbody strip.isStrip -/
noncomputable def strip_isStrip_j1  : Option Bool :=
  some true
noncomputable def strip_isStrip_l2 (s : Str) : Int → Option (Int ⊕ (Unit ⊕ Bool)) :=
  fun v =>
    bif (decide (v < (74 : Int))) then
      req ((0 ≤ v ∧ v < (s.length : Int)) ∧ (((sx s v) != (48 : Int)) = true → 0 ≤ v ∧ v < (s.length : Int)) ∧ ((((sx s v) != (48 : Int)) && ((sx s v) != (49 : Int))) = true → 0 ≤ v ∧ v < (s.length : Int))) <|
      bif ((((sx s v) != (48 : Int)) && ((sx s v) != (49 : Int))) && ((sx s v) != (63 : Int))) then
        some (.inr (.inr false))
      else
        some (.inl (IntKind.i64.wrap (v + (1 : Int))))
    else
      some (.inr (.inl ()))
noncomputable def strip_isStrip (s : Str) : Option Bool :=
  bif ((s.length : Int) != (74 : Int)) then
    some false
  else
    (iter (strip_isStrip_l2 s) (0 : Int)).bind fun x_ =>
    match x_ with
    | .inl () => strip_isStrip_j1
    | .inr t_ => some t_
/-- awardingbody strip.Upright -/
noncomputable def strip_Upright (s : Str) : Option (Str × Int) :=
  (strip_isStrip s).bind fun y =>
  bif (!y) then
    some (([] : Str), (7 : Int))
  else
    (strip_marked s ([49] : Str) ([48] : Str)).bind fun y1 =>
    bif y1 then
      some (s, (0 : Int))
    else
      (strip_marked s ([48] : Str) ([49] : Str)).bind fun y2 =>
      bif y2 then
        (strip_Flip s).bind fun y3 =>
        some (y3, (0 : Int))
      else
        some (([] : Str), (26 : Int))
/-- awardingbody strip.Word -/
noncomputable def strip_Word_j1 (w : List Int) : Option ((List Int) × Int) :=
  some (w, (0 : Int))
noncomputable def strip_Word_j2 (v : Int) (w3 : List Int) : Option ((Int × (List Int)) ⊕ (List Int)) :=
  some (.inl ((IntKind.i64.wrap (v + (1 : Int))), w3))
noncomputable def strip_Word_l3 (s : Str) (v : Int) : (Int × (List Int)) → Option ((Int × (List Int)) ⊕ (List Int)) :=
  fun (v1, w4) =>
    bif (decide (v1 < (5 : Int))) then
      req ((0 ≤ (IntKind.i64.wrap ((IntKind.i64.wrap ((7 : Int) + (IntKind.i64.wrap (v * (5 : Int))))) + v1)) ∧ (IntKind.i64.wrap ((IntKind.i64.wrap ((7 : Int) + (IntKind.i64.wrap (v * (5 : Int))))) + v1)) < (s.length : Int))) <|
      bindV (sx s (IntKind.i64.wrap ((IntKind.i64.wrap ((7 : Int) + (IntKind.i64.wrap (v * (5 : Int))))) + v1))) fun module =>
      bif (module == (63 : Int)) then
        req ((0 ≤ v ∧ v < (w4.length : Int))) <|
        some (.inr (setI w4 v (-1 : Int)))
      else
        req ((0 ≤ v ∧ v < (w4.length : Int))) <|
        bindV (setI w4 v (bOr .i64 (bShl .i64 (ix w4 v) (1 : Int)) (IntKind.i64.wrap (IntKind.u8.wrap (module - (48 : Int)))))) fun w6 =>
        some (.inl ((IntKind.i64.wrap (v1 + (1 : Int))), w6))
    else
      some (.inr w4)
noncomputable def strip_Word_l4 (s : Str) : (Int × (List Int)) → Option ((Int × (List Int)) ⊕ (List Int)) :=
  fun (v, w1) =>
    bif (decide (v < ((rep (12 : Int) (0 : Int)).length : Int))) then
      (iter (strip_Word_l3 s v) ((0 : Int), w1)).bind fun w5 =>
      strip_Word_j2 v w5
    else
      some (.inr w1)
noncomputable def strip_Word (s : Str) : Option ((List Int) × Int) :=
  (strip_isStrip s).bind fun y =>
  bif (!y) then
    some (([] : List Int), (7 : Int))
  else
    req ((0 ≤ (12 : Int) ∧ (12 : Int) * 8 ≤ 140737488355328)) <|
    (iter (strip_Word_l4 s) ((0 : Int), (rep (12 : Int) (0 : Int)))).bind fun w2 =>
    strip_Word_j1 w2
/-- awardingbody strip.Read -/
noncomputable def strip_Read (s : Str) : Option (api_Label × Int × Int) :=
  (strip_Upright s).bind fun (y, y1) =>
  bif (y1 != (0 : Int)) then
    some ((api_Label.mk (0 : Int) (0 : Int) (0 : Int) (0 : Int)), (0 : Int), y1)
  else
    (strip_Word y).bind fun (y2, y3) =>
    bif (y3 != (0 : Int)) then
      some ((api_Label.mk (0 : Int) (0 : Int) (0 : Int) (0 : Int)), (0 : Int), y3)
    else
      (rscode_Decode y2).bind fun (y4, y5, y6) =>
      bif (y6 != (0 : Int)) then
        some ((api_Label.mk (0 : Int) (0 : Int) (0 : Int) (0 : Int)), (0 : Int), (25 : Int))
      else
        req ((0 ≤ (1 : Int) ∧ (1 : Int) < (y4.length : Int)) ∧ (0 ≤ (2 : Int) ∧ (2 : Int) < (y4.length : Int)) ∧ (0 ≤ (3 : Int) ∧ (3 : Int) < (y4.length : Int))) <|
        bindV (IntKind.i64.wrap ((IntKind.i64.wrap ((IntKind.i64.wrap ((IntKind.i64.wrap ((ix y4 (1 : Int)) * (32 : Int))) + (ix y4 (2 : Int)))) * (32 : Int))) + (ix y4 (3 : Int)))) fun candidate =>
        bif (decide ((9999 : Int) < candidate)) then
          some ((api_Label.mk (0 : Int) (0 : Int) (0 : Int) (0 : Int)), (0 : Int), (2 : Int))
        else
          req ((0 ≤ (0 : Int) ∧ (0 : Int) < (y4.length : Int)) ∧ (0 ≤ (4 : Int) ∧ (4 : Int) < (y4.length : Int)) ∧ (0 ≤ (5 : Int) ∧ (5 : Int) < (y4.length : Int))) <|
          some ((api_Label.mk (ix y4 (0 : Int)) candidate (ix y4 (4 : Int)) (ix y4 (5 : Int))), y5, (0 : Int))
/-- awardingbody awardingbodymake.Cut -/
noncomputable def make_Cut_j1 (x1 : Int) : Option Int :=
  some x1
noncomputable def make_Cut (x : Int) (n : Int) : Option Int :=
  bif (decide (n < (1 : Int))) then
    some (0 : Int)
  else
    req (n ≠ 0) <|
    bif (decide ((Int.tmod x n) < (0 : Int))) then
      make_Cut_j1 (IntKind.i64.wrap ((Int.tmod x n) + n))
    else
      make_Cut_j1 (Int.tmod x n)
/-- (ptr awardingbody awardingbodymake.Tape).Raw -/
noncomputable def make_Tape_Raw (t : make_Tape) : Option (Int × make_Tape) :=
  bif (decide ((t.L.length : Int) ≤ t.At)) then
    some ((0 : Int), t)
  else
    req ((0 ≤ (IntKind.i64.wrap ((IntKind.i64.wrap (t.At + (1 : Int))) - (1 : Int))) ∧ (IntKind.i64.wrap ((IntKind.i64.wrap (t.At + (1 : Int))) - (1 : Int))) < (t.L.length : Int))) <|
    bindV (ix t.L (IntKind.i64.wrap ((IntKind.i64.wrap (t.At + (1 : Int))) - (1 : Int)))) fun v =>
    some (v, (make_Tape.mk t.L (IntKind.i64.wrap (t.At + (1 : Int)))))
/-- (ptr awardingbody awardingbodymake.Tape).Next -/
noncomputable def make_Tape_Next (t : make_Tape) (n : Int) : Option (Int × make_Tape) :=
  (make_Tape_Raw t).bind fun (y, y1) =>
  (make_Cut y n).bind fun y2 =>
  some (y2, y1)
/-- awardingbody awardingbodymake.Change -/
noncomputable def make_Change_j1 (s : Str) (at_ : Int) (b1 : Str) : Option Str :=
  req ((0 ≤ at_ ∧ at_ ≤ (s.length : Int)) ∧ (List.take at_.toNat s).length + b1.length ≤ 140737488355328 ∧ (0 ≤ (IntKind.i64.wrap (at_ + (1 : Int))) ∧ (IntKind.i64.wrap (at_ + (1 : Int))) ≤ (s.length : Int)) ∧ ((List.take at_.toNat s) ++ b1).length + (List.drop (IntKind.i64.wrap (at_ + (1 : Int))).toNat s).length ≤ 140737488355328) <|
  bindV (((List.take at_.toNat s) ++ b1) ++ (List.drop (IntKind.i64.wrap (at_ + (1 : Int))).toNat s)) fun v =>
  some v
noncomputable def make_Change_j2 (s : Str) (at_ : Int) (how : Int) (b : Str) : Option Str :=
  bif (how == (1 : Int)) then
    make_Change_j1 s at_ ([63] : Str)
  else
    make_Change_j1 s at_ b
noncomputable def make_Change (s : Str) (at_ : Int) (how : Int) : Option Str :=
  bif ((decide (at_ < (0 : Int))) || (decide ((s.length : Int) ≤ at_))) then
    some s
  else
    req ((0 ≤ at_ ∧ at_ < (s.length : Int))) <|
    bif ((sx s at_) == (48 : Int)) then
      make_Change_j2 s at_ how ([49] : Str)
    else
      make_Change_j2 s at_ how ([48] : Str)
/-- (ptr awardingbody awardingbodymake.Tape).Order -/
noncomputable def make_Tape_Order_j1 (out : List Int) (t1 : List Int) (t2 : Int) : Option ((List Int) × make_Tape) :=
  some (out, (make_Tape.mk t1 t2))
noncomputable def make_Tape_Order_l2 (n : Int) : ((List Int) × Int × (List Int) × Int) → Option (((List Int) × Int × (List Int) × Int) ⊕ ((List Int) × (List Int) × Int)) :=
  fun (out1, i, t3, t4) =>
    bif (decide (i < n)) then
      (make_Tape_Next (make_Tape.mk t3 t4) (IntKind.i64.wrap (i + (1 : Int)))).bind fun (y, y1) =>
      req ((0 ≤ y ∧ y ≤ (out1.length : Int)) ∧ (([] : List Int).length + (List.take y.toNat out1).length) * 8 ≤ 140737488355328) <|
      req (((([] : List Int) ++ (List.take y.toNat out1)).length + ([i]).length) * 8 ≤ 140737488355328) <|
      req ((0 ≤ y ∧ y ≤ (out1.length : Int)) ∧ (((([] : List Int) ++ (List.take y.toNat out1)) ++ [i]).length + (List.drop y.toNat out1).length) * 8 ≤ 140737488355328) <|
      bindV (((([] : List Int) ++ (List.take y.toNat out1)) ++ [i]) ++ (List.drop y.toNat out1)) fun next =>
      some (.inl (next, (IntKind.i64.wrap (i + (1 : Int))), y1.L, y1.At))
    else
      some (.inr (out1, t3, t4))
noncomputable def make_Tape_Order (t : make_Tape) (n : Int) : Option ((List Int) × make_Tape) :=
  (iter (make_Tape_Order_l2 n) (([] : List Int), (0 : Int), t.L, t.At)).bind fun (out2, t5, t6) =>
  make_Tape_Order_j1 out2 t5 t6
/-- awardingbody awardingbodytop.pagesDamage -/
noncomputable def top_pagesDamage_j1 (x3 : Str) (s7 : List Int) (s8 : Int) : Option (Str × make_Tape) :=
  some (x3, (make_Tape.mk s7 s8))
noncomputable def top_pagesDamage_j2 (x2 : Str) (s5 : List Int) (s6 : Int) : Option (Str × make_Tape) :=
  (make_Tape_Next (make_Tape.mk s5 s6) (2 : Int)).bind fun (y2, y3) =>
  bif (y2 == (1 : Int)) then
    (strip_Flip x2).bind fun y4 =>
    top_pagesDamage_j1 y4 y3.L y3.At
  else
    top_pagesDamage_j1 x2 y3.L y3.At
noncomputable def top_pagesDamage_l3 (y : List Int) (n : Int) (how : Int) : (Str × Int × (List Int) × Int) → Option ((Str × Int × (List Int) × Int) ⊕ (Str × (List Int) × Int)) :=
  fun (x4, i, s9, s10) =>
    bif (decide (i < n)) then
      req ((0 ≤ i ∧ i < (y.length : Int))) <|
      (make_Tape_Next (make_Tape.mk s9 s10) (5 : Int)).bind fun (y5, y6) =>
      (make_Change x4 (IntKind.i64.wrap ((IntKind.i64.wrap ((7 : Int) + (IntKind.i64.wrap ((5 : Int) * (ix y i))))) + y5)) how).bind fun y7 =>
      some (.inl (y7, (IntKind.i64.wrap (i + (1 : Int))), y6.L, y6.At))
    else
      some (.inr (x4, s9, s10))
noncomputable def top_pagesDamage_j4 (x1 : Str) (y : List Int) (n : Int) (how : Int) (s3 : List Int) (s4 : Int) : Option (Str × make_Tape) :=
  (iter (top_pagesDamage_l3 y n how) (x1, (0 : Int), s3, s4)).bind fun (x5, s11, s12) =>
  top_pagesDamage_j2 x5 s11 s12
noncomputable def top_pagesDamage_j5 (x1 : Str) (s1 : List Int) (s2 : Int) : Option (Str × make_Tape) :=
  (make_Tape_Order (make_Tape.mk s1 s2) (12 : Int)).bind fun (y, y1) =>
  (make_Tape_Next y1 (2 : Int)).bind fun (y8, y9) =>
  bif (y8 == (1 : Int)) then
    top_pagesDamage_j4 x1 y (6 : Int) (1 : Int) y9.L y9.At
  else
    top_pagesDamage_j4 x1 y (3 : Int) (0 : Int) y9.L y9.At
noncomputable def top_pagesDamage_l6  : (Str × Int × (List Int) × Int) → Option ((Str × Int × (List Int) × Int) ⊕ (Str × (List Int) × Int)) :=
  fun (x6, i1, s13, s14) =>
    bif (decide (i1 < (3 : Int))) then
      (make_Tape_Next (make_Tape.mk s13 s14) (7 : Int)).bind fun (y10, y11) =>
      (make_Tape_Next y11 (2 : Int)).bind fun (y12, y13) =>
      (make_Change x6 y10 y12).bind fun y14 =>
      (make_Tape_Next y13 (7 : Int)).bind fun (y15, y16) =>
      (make_Tape_Next y16 (2 : Int)).bind fun (y17, y18) =>
      (make_Change y14 (IntKind.i64.wrap ((67 : Int) + y15)) y17).bind fun y19 =>
      some (.inl (y19, (IntKind.i64.wrap (i1 + (1 : Int))), y18.L, y18.At))
    else
      some (.inr (x6, s13, s14))
noncomputable def top_pagesDamage (s : make_Tape) (x : Str) : Option (Str × make_Tape) :=
  (iter (top_pagesDamage_l6) (x, (0 : Int), s.L, s.At)).bind fun (x7, s15, s16) =>
  top_pagesDamage_j5 x7 s15 s16
/-- awardingbody strip.Draw -/
noncomputable def strip_Draw (l : api_Label) : Option (Str × Int) :=
  if 0 ≤ l.Paper ∧ l.Paper < 32 ∧ 0 ≤ l.Candidate ∧ l.Candidate ≤ 9999 ∧ 0 ≤ l.Page ∧ l.Page < 32 ∧ 0 ≤ l.Variant ∧ l.Variant < 32 then
    some (Go.Proofs.drawL (encP (Go.Proofs.symsP l.Paper.toNat l.Candidate.toNat l.Page.toNat l.Variant.toNat)), 0) else none
/-- awardingbody awardingbodytop.awake19 -/
noncomputable def top_awake19  : Option Bool :=
  (strip_Draw (api_Label.mk (1 : Int) (2 : Int) (3 : Int) (0 : Int))).bind fun (y, y1) =>
  (make_Change y (20 : Int) (0 : Int)).bind fun y2 =>
  (strip_Read y2).bind fun (y3, y4, y5) =>
  some ((((y1 == (0 : Int)) && (y5 == (0 : Int))) && ((y3.Paper == (1 : Int)) && ((y3.Candidate == (2 : Int)) && ((y3.Page == (3 : Int)) && (y3.Variant == (0 : Int)))))) && (y4 == (1 : Int)))
/-- awardingbody awardingbodymake.New -/
noncomputable def make_New_j1 (l1 : List Int) : Option make_Tape :=
  some (make_Tape.mk l1 (0 : Int))
noncomputable def make_New (l : List Int) : Option make_Tape :=
  bif (decide ((600 : Int) < (l.length : Int))) then
    req ((0 ≤ (600 : Int) ∧ (600 : Int) ≤ (l.length : Int))) <|
    make_New_j1 (List.take (600 : Int).toNat l)
  else
    make_New_j1 l
/-- awardingbody awardingbodytop.pagesOf -/
noncomputable def top_pagesOf_j1 (out : List api_Label) : Option (List api_Label) :=
  some out
noncomputable def top_pagesOf_j2 (i : Int) (out3 : List api_Label) : Option ((Int × (List api_Label)) ⊕ (List api_Label)) :=
  some (.inl ((IntKind.i64.wrap (i + (1 : Int))), out3))
noncomputable def top_pagesOf_l3 (x : api_Sitting) (i : Int) : (Int × (List api_Label)) → Option ((Int × (List api_Label)) ⊕ (List api_Label)) :=
  fun (k, out4) =>
    req ((0 ≤ (ix x.Expected i).Variant ∧ (ix x.Expected i).Variant < (x.Booklets.length : Int))) <|
    bif (decide (k < (((ix x.Booklets ((ix x.Expected i).Variant)).Pages).length : Int))) then
      req ((out4.length + ([(api_Label.mk x.Number ((ix x.Expected i).Candidate) k ((ix x.Expected i).Variant))]).length) * 32 ≤ 140737488355328) <|
      bindV (out4 ++ [(api_Label.mk x.Number ((ix x.Expected i).Candidate) k ((ix x.Expected i).Variant))]) fun out6 =>
      some (.inl ((IntKind.i64.wrap (k + (1 : Int))), out6))
    else
      some (.inr out4)
noncomputable def top_pagesOf_l4 (x : api_Sitting) : (Int × (List api_Label)) → Option ((Int × (List api_Label)) ⊕ (List api_Label)) :=
  fun (i, out1) =>
    bif (decide (i < (x.Expected.length : Int))) then
      req ((0 ≤ i ∧ i < (x.Expected.length : Int))) <|
      (iter (top_pagesOf_l3 x i) ((0 : Int), out1)).bind fun out5 =>
      top_pagesOf_j2 i out5
    else
      some (.inr out1)
noncomputable def top_pagesOf (x : api_Sitting) : Option (List api_Label) :=
  (iter (top_pagesOf_l4 x) ((0 : Int), ([] : List api_Label))).bind fun out2 =>
  top_pagesOf_j1 out2
/-- (ptr awardingbody awardingbodymake.Tape).Range -/
noncomputable def make_Tape_Range (t : make_Tape) (low : Int) (high : Int) : Option (Int × make_Tape) :=
  (make_Tape_Next t (IntKind.i64.wrap ((IntKind.i64.wrap (high - low)) + (1 : Int)))).bind fun (y, y1) =>
  some ((IntKind.i64.wrap (low + y)), y1)
/-- (ptr awardingbody awardingbodymake.Tape).One -/
noncomputable def make_Tape_One (t : make_Tape) (n : Int) : Option (Bool × make_Tape) :=
  (make_Tape_Next t n).bind fun (y, y1) =>
  some ((y == (IntKind.i64.wrap (n - (1 : Int)))), y1)
/-- (ptr awardingbody awardingbodymake.Tape).Pick -/
noncomputable def make_Tape_Pick (t : make_Tape) (l : List Int) : Option (Int × make_Tape) :=
  (make_Tape_Next t (l.length : Int)).bind fun (y, y1) =>
  req ((0 ≤ y ∧ y < (l.length : Int))) <|
  some ((ix l y), y1)
/-- (ptr awardingbody awardingbodymake.Tape).Wild -/
noncomputable def make_Tape_Wild (t : make_Tape) : Option (Int × make_Tape) :=
  (make_Tape_Pick t ([(-1 : Int), (0 : Int), (1 : Int), (2 : Int), (31 : Int), (32 : Int), (99 : Int), (100 : Int), (200 : Int), (201 : Int), (9999 : Int), (10000 : Int), (1000000 : Int), (1000001 : Int), (1152921504606846976 : Int), (1152921504606846977 : Int), (-1152921504606846976 : Int), (9223372036854775807 : Int), (-9223372036854775808 : Int)])).bind fun (y, y1) =>
  some (y, y1)
/-- (ptr awardingbody awardingbodymake.Tape).Part -/
noncomputable def make_Tape_Part_j1 (t3 : List Int) (t4 : Int) (p4 : Int) (p5 : Int) (p6 : Int) (p7 : Int) (p8 : Int) (p9 : Int) : Option (api_Part × make_Tape) :=
  some ((api_Part.mk p4 p5 p6 p7 p8 p9), (make_Tape.mk t3 t4))
noncomputable def make_Tape_Part_j2 (n : Int) (y2 : Int) (y4 : Int) (t1 : List Int) (t2 : Int) (p : Int) (p1 : Int) (p2 : Int) (p3 : Int) : Option (api_Part × make_Tape) :=
  bif (decide ((0 : Int) < n)) then
    (make_Tape_One (make_Tape.mk t1 t2) n).bind fun (y6, y7) =>
    bif y6 then
      (make_Tape_Next y7 (6 : Int)).bind fun (y8, y9) =>
      bif (y8 == (0 : Int)) then
        (make_Tape_Range y9 (-1 : Int) (3 : Int)).bind fun (y10, y11) =>
        make_Tape_Part_j1 y11.L y11.At y10 p1 y2 y4 p2 p3
      else
        bif (y8 == (1 : Int)) then
          (make_Tape_Pick y9 ([(0 : Int), (40 : Int), (41 : Int), (-1 : Int)])).bind fun (y12, y13) =>
          make_Tape_Part_j1 y13.L y13.At p y12 y2 y4 p2 p3
        else
          bif (y8 == (2 : Int)) then
            (make_Tape_Wild y9).bind fun (y14, y15) =>
            make_Tape_Part_j1 y15.L y15.At p p1 y14 y4 p2 p3
          else
            bif (y8 == (3 : Int)) then
              (make_Tape_Wild y9).bind fun (y16, y17) =>
              make_Tape_Part_j1 y17.L y17.At p p1 y2 y16 p2 p3
            else
              bif (y8 == (4 : Int)) then
                (make_Tape_Range y9 (-1 : Int) (6 : Int)).bind fun (y18, y19) =>
                make_Tape_Part_j1 y19.L y19.At p p1 y2 y4 y18 p3
              else
                (make_Tape_Range y9 (-1 : Int) (5 : Int)).bind fun (y20, y21) =>
                make_Tape_Part_j1 y21.L y21.At p p1 y2 y4 p2 y20
    else
      make_Tape_Part_j1 y7.L y7.At p p1 y2 y4 p2 p3
  else
    make_Tape_Part_j1 t1 t2 p p1 y2 y4 p2 p3
noncomputable def make_Tape_Part (t : make_Tape) (n : Int) : Option (api_Part × make_Tape) :=
  (make_Tape_Range t (1 : Int) (12 : Int)).bind fun (y, y1) =>
  (make_Tape_Next y1 (4 : Int)).bind fun (y2, y3) =>
  (make_Tape_Next y3 (3 : Int)).bind fun (y4, y5) =>
  (make_Tape_Next y5 (3 : Int)).bind fun (y22, y23) =>
  bif (y22 == (0 : Int)) then
    (make_Tape_Range y23 (2 : Int) (5 : Int)).bind fun (y24, y25) =>
    (make_Tape_Next y25 y24).bind fun (y26, y27) =>
    (make_Tape_Range y27 (1 : Int) (3 : Int)).bind fun (y28, y29) =>
    make_Tape_Part_j2 n y2 y4 y29.L y29.At (2 : Int) y28 y24 y26
  else
    make_Tape_Part_j2 n y2 y4 y23.L y23.At (1 : Int) y (0 : Int) (0 : Int)
/-- (ptr awardingbody awardingbodymake.Tape).Paper -/
noncomputable def make_Tape_Paper_j1 (code : Int) (variant : Int) (t1 : List Int) (t2 : Int) (w : List api_Part) : Option (api_Paper × make_Tape) :=
  some ((api_Paper.mk code variant w), (make_Tape.mk t1 t2))
noncomputable def make_Tape_Paper_l2  : (Int × (List Int) × Int × (List api_Part)) → Option ((Int × (List Int) × Int × (List api_Part)) ⊕ ((List Int) × Int × (List api_Part))) :=
  fun (i, t3, t4, w1) =>
    bif (decide ((0 : Int) < i)) then
      (make_Tape_Part (make_Tape.mk t3 t4) (0 : Int)).bind fun (y2, y3) =>
      req ((w1.length + ([y2]).length) * 48 ≤ 140737488355328) <|
      some (.inl ((IntKind.i64.wrap (i - (1 : Int))), y3.L, y3.At, (w1 ++ [y2])))
    else
      some (.inr (t3, t4, w1))
noncomputable def make_Tape_Paper (t : make_Tape) (code : Int) (variant : Int) : Option (api_Paper × make_Tape) :=
  (make_Tape_Range t (1 : Int) (6 : Int)).bind fun (y, y1) =>
  (iter (make_Tape_Paper_l2) (y, y1.L, y1.At, ([] : List api_Part))).bind fun (t5, t6, w2) =>
  make_Tape_Paper_j1 code variant t5 t6 w2
/-- awardingbody awardingbodyref06.ValidPart -/
noncomputable def ref06_ValidPart (p : api_Part) : Option Bool :=
  bif ((((((decide (p.Max < (1 : Int))) || (decide ((40 : Int) < p.Max))) || (decide (p.Topic < (0 : Int)))) || (decide ((16 : Int) ≤ p.Topic))) || (decide (p.Objective < (0 : Int)))) || (decide ((6 : Int) ≤ p.Objective))) then
    some false
  else
    bif (p.Kind == (1 : Int)) then
      some ((p.Options == (0 : Int)) && (p.Key == (0 : Int)))
    else
      some (((((p.Kind == (2 : Int)) && (decide ((2 : Int) ≤ p.Options))) && (decide (p.Options ≤ (5 : Int)))) && (decide ((0 : Int) ≤ p.Key))) && (decide (p.Key < p.Options)))
/-- awardingbody awardingbodyref06.ValidPaper -/
noncomputable def ref06_ValidPaper_j1 (sum : Int) : Option Bool :=
  some (decide (sum ≤ (200 : Int)))
noncomputable def ref06_ValidPaper_l2 (p : api_Paper) : (Int × Int) → Option ((Int × Int) ⊕ (Int ⊕ Bool)) :=
  fun (sum1, i) =>
    bif (decide (i < (p.Parts.length : Int))) then
      req ((0 ≤ i ∧ i < (p.Parts.length : Int))) <|
      (ref06_ValidPart (ix p.Parts i)).bind fun y =>
      bif (!y) then
        some (.inr (.inr false))
      else
        req ((0 ≤ i ∧ i < (p.Parts.length : Int))) <|
        some (.inl ((IntKind.i64.wrap (sum1 + (ix p.Parts i).Max)), (IntKind.i64.wrap (i + (1 : Int)))))
    else
      some (.inr (.inl sum1))
noncomputable def ref06_ValidPaper (p : api_Paper) : Option Bool :=
  bif ((((((decide (p.Code < (0 : Int))) || (decide ((31 : Int) < p.Code))) || (decide (p.Variant < (0 : Int)))) || (decide ((4 : Int) ≤ p.Variant))) || (decide ((p.Parts.length : Int) < (1 : Int)))) || (decide ((24 : Int) < (p.Parts.length : Int)))) then
    some false
  else
    (iter (ref06_ValidPaper_l2 p) ((0 : Int), (0 : Int))).bind fun x_ =>
    match x_ with
    | .inl sum2 => ref06_ValidPaper_j1 sum2
    | .inr t_ => some t_
/-- awardingbody awardingbodyref12.Need -/
noncomputable def ref12_Need (p : api_Part) : Option Int :=
  (ref06_ValidPart p).bind fun y =>
  bif (!y) then
    some (0 : Int)
  else
    bif (p.Kind == (2 : Int)) then
      some (IntKind.i64.wrap ((2 : Int) + p.Options))
    else
      some (imin (IntKind.i64.wrap ((2 : Int) + p.Max)) (30 : Int))
/-- awardingbody awardingbodyref12.Make -/
noncomputable def ref12_Make (p : api_Paper) : Option (api_Booklet × Int) :=
  (ref06_ValidPaper p).bind fun ok => if ok = true then
    (p.Parts.mapM ref12_Need).bind fun nds => if p.Parts.length ≤ 8 ∧ (∀ x ∈ nds, 0 ≤ x ∧ x ≤ 30) then some (⟨(Go.Proofs.padP (Go.Proofs.pgTo nds nds.length).1).map (fun r => r.map fun x : Nat => (x : Int))⟩, 0) else none
  else none
/-- (ptr awardingbody awardingbodymake.Tape).Sitting -/
noncomputable def make_Tape_Sitting_j1 (t5 : List Int) (t6 : Int) (s : Int) (w3 : List api_Paper) (w4 : List api_Booklet) (w5 : List api_Expected) : Option (api_Sitting × make_Tape) :=
  some ((api_Sitting.mk s w3 w4 w5), (make_Tape.mk t5 t6))
noncomputable def make_Tape_Sitting_j2 (n : Int) (y : Int) (w : List api_Paper) (w1 : List api_Booklet) (t3 : List Int) (t4 : Int) (w2 : List api_Expected) : Option (api_Sitting × make_Tape) :=
  bif (decide ((0 : Int) < n)) then
    (make_Tape_One (make_Tape.mk t3 t4) n).bind fun (y2, y3) =>
    bif y2 then
      (make_Tape_Next y3 (5 : Int)).bind fun (y4, y5) =>
      bif (y4 == (0 : Int)) then
        (make_Tape_Pick y5 ([(-1 : Int), (0 : Int), (1 : Int), (31 : Int), (32 : Int)])).bind fun (y6, y7) =>
        make_Tape_Sitting_j1 y7.L y7.At y6 w w1 w2
      else
        bif (y4 == (1 : Int)) then
          req ((w1.length + ([(api_Booklet.mk ([] : List (List Int)))]).length) * 24 ≤ 140737488355328) <|
          make_Tape_Sitting_j1 y5.L y5.At y w (w1 ++ [(api_Booklet.mk ([] : List (List Int)))]) w2
        else
          bif (y4 == (2 : Int)) then
            (make_Tape_Pick y5 ([(0 : Int), (9999 : Int), (10000 : Int), (-1 : Int)])).bind fun (y8, y9) =>
            (make_Tape_Pick y9 ([(0 : Int), (1 : Int), (99 : Int), (100 : Int)])).bind fun (y10, y11) =>
            (make_Tape_Range y11 (-1 : Int) (2 : Int)).bind fun (y12, y13) =>
            req ((w2.length + ([(api_Expected.mk y8 y10 y12)]).length) * 24 ≤ 140737488355328) <|
            make_Tape_Sitting_j1 y13.L y13.At y w w1 (w2 ++ [(api_Expected.mk y8 y10 y12)])
          else
            bif (y4 == (3 : Int)) then
              (make_Tape_Next y5 (3 : Int)).bind fun (y14, y15) =>
              req ((0 ≤ (0 : Int) ∧ (0 : Int) < (w.length : Int))) <|
              bindV (setI w (0 : Int) (api_Paper.mk ((ix w (0 : Int)).Code) y14 ((ix w (0 : Int)).Parts))) fun w6 =>
              make_Tape_Sitting_j1 y15.L y15.At y w6 w1 w2
            else
              make_Tape_Sitting_j1 y5.L y5.At y ([] : List api_Paper) w1 w2
    else
      make_Tape_Sitting_j1 y3.L y3.At y w w1 w2
  else
    make_Tape_Sitting_j1 t3 t4 y w w1 w2
noncomputable def make_Tape_Sitting_j3 (i : Int) (t11 : List Int) (t12 : Int) (w9 : List api_Expected) : Option ((Int × (List Int) × Int × (List api_Expected)) ⊕ ((List Int) × Int × (List api_Expected))) :=
  some (.inl ((IntKind.i64.wrap (i + (1 : Int))), t11, t12, w9))
noncomputable def make_Tape_Sitting_l4 (w : List api_Paper) : (Int × (List Int) × Int × (List api_Expected)) → Option ((Int × (List Int) × Int × (List api_Expected)) ⊕ ((List Int) × Int × (List api_Expected))) :=
  fun (i, t7, t8, w7) =>
    bif (decide (i < (4 : Int))) then
      (make_Tape_Next (make_Tape.mk t7 t8) (4 : Int)).bind fun (y16, y17) =>
      bif (decide ((0 : Int) < y16)) then
        (make_Tape_Range y17 (1 : Int) (2 : Int)).bind fun (y18, y19) =>
        (make_Tape_Next y19 (w.length : Int)).bind fun (y20, y21) =>
        req ((w7.length + ([(api_Expected.mk i y18 y20)]).length) * 24 ≤ 140737488355328) <|
        make_Tape_Sitting_j3 i y21.L y21.At (w7 ++ [(api_Expected.mk i y18 y20)])
      else
        make_Tape_Sitting_j3 i y17.L y17.At w7
    else
      some (.inr (t7, t8, w7))
noncomputable def make_Tape_Sitting_j5 (n : Int) (y : Int) (t1 : List Int) (t2 : Int) (w : List api_Paper) (w1 : List api_Booklet) : Option (api_Sitting × make_Tape) :=
  (iter (make_Tape_Sitting_l4 w) ((0 : Int), t1, t2, ([] : List api_Expected))).bind fun (t9, t10, w8) =>
  make_Tape_Sitting_j2 n y w w1 t9 t10 w8
noncomputable def make_Tape_Sitting_l6 (y : Int) : (Int × (List Int) × Int × (List api_Paper) × (List api_Booklet)) → Option ((Int × (List Int) × Int × (List api_Paper) × (List api_Booklet)) ⊕ ((List Int) × Int × (List api_Paper) × (List api_Booklet))) :=
  fun (v, t13, t14, w10, w11) =>
    (make_Tape_Range (make_Tape.mk t13 t14) (1 : Int) (2 : Int)).bind fun (y22, y23) =>
    bif (decide (v < y22)) then
      (make_Tape_Paper y23 y v).bind fun (y24, y25) =>
      (ref12_Make y24).bind fun (y26, y27) =>
      req ((w10.length + ([y24]).length) * 40 ≤ 140737488355328 ∧ (w11.length + ([y26]).length) * 24 ≤ 140737488355328) <|
      some (.inl ((IntKind.i64.wrap (v + (1 : Int))), y25.L, y25.At, (w10 ++ [y24]), (w11 ++ [y26])))
    else
      some (.inr (y23.L, y23.At, w10, w11))
noncomputable def make_Tape_Sitting (t : make_Tape) (n : Int) : Option (api_Sitting × make_Tape) :=
  (make_Tape_Next t (2 : Int)).bind fun (y, y1) =>
  (iter (make_Tape_Sitting_l6 y) ((0 : Int), y1.L, y1.At, ([] : List api_Paper), ([] : List api_Booklet))).bind fun (t15, t16, w12, w13) =>
  make_Tape_Sitting_j5 n y t15 t16 w12 w13
/-- awardingbody awardingbodytop.TopLabels -/
noncomputable def top_TopLabels_j1  : Option Bool :=
  (top_awake19).bind fun y4 =>
  some y4
noncomputable def top_TopLabels_j2 (i : Int) (words1 : List (List Int)) (w2 : List Int) (w3 : Int) : Option ((Int × (List (List Int)) × (List Int) × Int) ⊕ (Unit ⊕ Bool)) :=
  some (.inl ((IntKind.i64.wrap (i + (1 : Int))), words1, w2, w3))
noncomputable def top_TopLabels_j3 (y3 : List api_Label) (i : Int) (words : List (List Int)) (w : List Int) (w1 : Int) (y5 : Str) (y7 : List Int) : Option ((Int × (List (List Int)) × (List Int) × Int) ⊕ (Unit ⊕ Bool)) :=
  req ((words.length + ([y7]).length) * 24 ≤ 140737488355328) <|
  (top_pagesDamage (make_Tape.mk w w1) y5).bind fun (y9, y10) =>
  (strip_Read y9).bind fun (y11, y12, y13) =>
  req (((!(y13 != (0 : Int))) = true → 0 ≤ i ∧ i < (y3.length : Int))) <|
  bif ((y13 != (0 : Int)) || (!((y11.Paper == (ix y3 i).Paper) && ((y11.Candidate == (ix y3 i).Candidate) && ((y11.Page == (ix y3 i).Page) && (y11.Variant == (ix y3 i).Variant)))))) then
    some (.inr (.inr false))
  else
    top_TopLabels_j2 i (words ++ [y7]) y10.L y10.At
noncomputable def top_TopLabels_l4 (words : List (List Int)) (y7 : List Int) : Int → Option (Int ⊕ (Unit ⊕ ((Int × (List (List Int)) × (List Int) × Int) ⊕ (Unit ⊕ Bool)))) :=
  fun k =>
    bif (decide (k < (words.length : Int))) then
      req ((0 ≤ k ∧ k < (words.length : Int))) <|
      (rscode_Distance y7 (ix words k)).bind fun y14 =>
      bif (decide (y14 < (7 : Int))) then
        some (.inr (.inr (.inr (.inr false))))
      else
        some (.inl (IntKind.i64.wrap (k + (1 : Int))))
    else
      some (.inr (.inl ()))
noncomputable def top_TopLabels_l5 (y3 : List api_Label) : (Int × (List (List Int)) × (List Int) × Int) → Option ((Int × (List (List Int)) × (List Int) × Int) ⊕ (Unit ⊕ Bool)) :=
  fun (i, words, w, w1) =>
    bif (decide (i < (y3.length : Int))) then
      req ((0 ≤ i ∧ i < (y3.length : Int))) <|
      (strip_Draw (ix y3 i)).bind fun (y5, y6) =>
      (strip_Word y5).bind fun (y7, y8) =>
      req (((!(((y6 != (0 : Int)) || (y8 != (0 : Int))) || ((y5.length : Int) != (74 : Int)))) = true → (rscode_Codeword y7).isSome = true)) <|
      bif ((((y6 != (0 : Int)) || (y8 != (0 : Int))) || ((y5.length : Int) != (74 : Int))) || (!((rscode_Codeword y7).getD default))) then
        some (.inr (.inr false))
      else
        (iter (top_TopLabels_l4 words y7) (0 : Int)).bind fun x_ =>
        match x_ with
        | .inl () => top_TopLabels_j3 y3 i words w w1 y5 y7
        | .inr t_ => some t_
    else
      some (.inr (.inl ()))
noncomputable def top_TopLabels (t : List Int) : Option Bool :=
  (make_New t).bind fun y =>
  (make_Tape_Sitting y (0 : Int)).bind fun (y1, y2) =>
  (top_pagesOf y1).bind fun y3 =>
  (iter (top_TopLabels_l5 y3) ((0 : Int), ([] : List (List Int)), y2.L, y2.At)).bind fun x_ =>
  match x_ with
  | .inl () => top_TopLabels_j1
  | .inr t_ => some t_
end Go.LS
