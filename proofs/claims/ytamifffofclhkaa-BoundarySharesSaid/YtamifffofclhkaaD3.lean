/-
  Plain functions that the program's functions compute. No condition: definitions, printed by dec.py.
-/
import Derived.Test.YtamifffofclhkaaD2
namespace Go.LS
set_option linter.all false
set_option linter.unusedSimpArgs false
set_option linter.unusedVariables false
set_option maxRecDepth 20000

/-- awardingbody awardingbodyref01.Order -/
noncomputable def ref01_Order (a : ref01_Wide) (b : ref01_Wide) : Option Int :=
  bif ((decide (a.Hi < b.Hi)) || ((a.Hi == b.Hi) && (decide (a.Lo < b.Lo)))) then
    some (-1 : Int)
  else
    bif ((a.Hi == b.Hi) && (a.Lo == b.Lo)) then
      some (0 : Int)
    else
      some (1 : Int)
/-- awardingbody awardingbodyref01.Minus -/
noncomputable def ref01_Minus (a : ref01_Wide) (b : ref01_Wide) : Option ref01_Wide :=
  (bits_Sub64 a.Lo b.Lo (0 : Int)).bind fun (y, y1) =>
  (bits_Sub64 a.Hi b.Hi y1).bind fun (y2, y3) =>
  some (ref01_Wide.mk y2 y)
/-- awardingbody awardingbodyref01.Divide -/
noncomputable def ref01_Divide_j1 (q : Int) (q1 : Int) (r : Int) (r1 : Int) : Option (ref01_Wide × ref01_Wide) :=
  some ((ref01_Wide.mk q q1), (ref01_Wide.mk r r1))
noncomputable def ref01_Divide_j2 (i : Int) (q6 : Int) (q7 : Int) (r6 : Int) (r7 : Int) : Option ((Int × Int × Int × Int × Int) ⊕ (Int × Int × Int × Int)) :=
  some (.inl ((IntKind.i64.wrap (i - (1 : Int))), q6, q7, r6, r7))
noncomputable def ref01_Divide_j3 (b : ref01_Wide) (i : Int) (q2 : Int) (q3 : Int) (r2 : Int) (r3 : Int) (bit1 : Int) : Option ((Int × Int × Int × Int × Int) ⊕ (Int × Int × Int × Int)) :=
  (ref01_Twice (ref01_Wide.mk r2 r3)).bind fun y =>
  (ref01_Twice (ref01_Wide.mk q2 q3)).bind fun y1 =>
  req (((!((bShr .u64 r2 (63 : Int)) == (1 : Int))) = true → (ref01_Order (ref01_Wide.mk y.Hi (bOr .u64 y.Lo bit1)) b).isSome = true)) <|
  bif (((bShr .u64 r2 (63 : Int)) == (1 : Int)) || (decide ((0 : Int) ≤ ((ref01_Order (ref01_Wide.mk y.Hi (bOr .u64 y.Lo bit1)) b).getD default)))) then
    (ref01_Minus (ref01_Wide.mk y.Hi (bOr .u64 y.Lo bit1)) b).bind fun y2 =>
    ref01_Divide_j2 i y1.Hi (bOr .u64 y1.Lo (1 : Int)) y2.Hi y2.Lo
  else
    ref01_Divide_j2 i y1.Hi y1.Lo y.Hi (bOr .u64 y.Lo bit1)
noncomputable def ref01_Divide_l4 (a : ref01_Wide) (b : ref01_Wide) : (Int × Int × Int × Int × Int) → Option ((Int × Int × Int × Int × Int) ⊕ (Int × Int × Int × Int)) :=
  fun (i, q2, q3, r2, r3) =>
    bif (decide ((0 : Int) ≤ i)) then
      req (0 ≤ (IntKind.u64.wrap (Int.tmod i (64 : Int)))) <|
      bindV (bAnd .u64 (bShr .u64 a.Lo (IntKind.u64.wrap (Int.tmod i (64 : Int)))) (1 : Int)) fun bit =>
      bif (decide ((64 : Int) ≤ i)) then
        req (0 ≤ (IntKind.u64.wrap (IntKind.i64.wrap (i - (64 : Int))))) <|
        bindV (bAnd .u64 (bShr .u64 a.Hi (IntKind.u64.wrap (IntKind.i64.wrap (i - (64 : Int))))) (1 : Int)) fun bit2 =>
        ref01_Divide_j3 b i q2 q3 r2 r3 bit2
      else
        ref01_Divide_j3 b i q2 q3 r2 r3 bit
    else
      some (.inr (q2, q3, r2, r3))
noncomputable def ref01_Divide (a : ref01_Wide) (b : ref01_Wide) : Option (ref01_Wide × ref01_Wide) :=
  bif ((a.Hi == (0 : Int)) && (b.Hi == (0 : Int))) then
    req (b.Lo ≠ 0) <|
    some ((ref01_Wide.mk (0 : Int) (IntKind.u64.wrap (Int.tdiv a.Lo b.Lo))), (ref01_Wide.mk (0 : Int) (Int.tmod a.Lo b.Lo)))
  else
    (iter (ref01_Divide_l4 a b) ((127 : Int), (0 : Int), (0 : Int), (0 : Int), (0 : Int))).bind fun (q4, q5, r4, r5) =>
    ref01_Divide_j1 q4 q5 r4 r5
/-- awardingbody awardingbodyref01.Divisor -/
noncomputable def ref01_Divisor_j1 (a1 : Int) (a2 : Int) : Option ref01_Wide :=
  some (ref01_Wide.mk a1 a2)
noncomputable def ref01_Divisor_l2  : (Int × Int × Int × Int) → Option ((Int × Int × Int × Int) ⊕ (Int × Int)) :=
  fun (a3, a4, b1, b2) =>
    bif (!((b1 == (0 : Int)) && (b2 == (0 : Int)))) then
      (ref01_Divide (ref01_Wide.mk a3 a4) (ref01_Wide.mk b1 b2)).bind fun (y, y1) =>
      some (.inl (b1, b2, y1.Hi, y1.Lo))
    else
      some (.inr (a3, a4))
noncomputable def ref01_Divisor (a : ref01_Wide) (b : ref01_Wide) : Option ref01_Wide :=
  (iter (ref01_Divisor_l2) (a.Hi, a.Lo, b.Hi, b.Lo)).bind fun (a5, a6) =>
  ref01_Divisor_j1 a5 a6
/-- awardingbody awardingbodyref01.Reduce -/
noncomputable def ref01_Reduce_j1 (y3 : ref01_Wide) (out : Int) : Option (api_Ratio × Int) :=
  some ((api_Ratio.mk out (IntKind.i64.wrap y3.Lo)), (0 : Int))
noncomputable def ref01_Reduce (negative : Bool) (num : ref01_Wide) (den : ref01_Wide) : Option (api_Ratio × Int) :=
  (ref01_Divisor num den).bind fun y =>
  (ref01_Divide num y).bind fun (y1, y2) =>
  (ref01_Divide den y).bind fun (y3, y4) =>
  bif ((((decide ((0 : Int) < y1.Hi)) || (decide ((0 : Int) < y3.Hi))) || (decide ((1152921504606846976 : Int) < y1.Lo))) || (decide ((1152921504606846976 : Int) < y3.Lo))) then
    some ((api_Ratio.mk (0 : Int) (0 : Int)), (6 : Int))
  else
    bif negative then
      ref01_Reduce_j1 y3 (IntKind.i64.wrap (0 - (IntKind.i64.wrap y1.Lo)))
    else
      ref01_Reduce_j1 y3 (IntKind.i64.wrap y1.Lo)
/-- awardingbody awardingbodyref01.Size -/
noncomputable def ref01_Size (n : Int) : Option Int :=
  bif (decide (n < (0 : Int))) then
    bindV (IntKind.u64.wrap ((IntKind.u64.wrap (IntKind.i64.wrap (0 - (IntKind.i64.wrap (n + (1 : Int)))))) + (1 : Int))) fun v =>
    some v
  else
    some (IntKind.u64.wrap n)
/-- awardingbody awardingbodyref01.New -/
noncomputable def ref01_New (num : Int) (den : Int) : Option (api_Ratio × Int) :=
  bif (den == (0 : Int)) then
    some ((api_Ratio.mk (0 : Int) (0 : Int)), (2 : Int))
  else
    (ref01_Size num).bind fun y =>
    (ref01_Size den).bind fun y1 =>
    (ref01_Reduce (!((decide (num < (0 : Int))) == (decide (den < (0 : Int))))) (ref01_Wide.mk (0 : Int) y) (ref01_Wide.mk (0 : Int) y1)).bind fun (y2, y3) =>
    some (y2, y3)
/-- awardingbody boundary.nearest -/
noncomputable def boundary_nearest_j1 (best : Int) : Option Int :=
  some best
noncomputable def boundary_nearest_j2 (v : Int) (best3 : Int) : Option ((Int × Int) ⊕ Int) :=
  some (.inl (best3, (IntKind.i64.wrap (v + (1 : Int)))))
noncomputable def boundary_nearest_l3 (share : api_Ratio) (y : List Int) : (Int × Int) → Option ((Int × Int) ⊕ Int) :=
  fun (best1, v) =>
    bif (decide (v < (y.length : Int))) then
      req ((0 ≤ v ∧ v < (y.length : Int))) <|
      req ((0 ≤ best1 ∧ best1 < (y.length : Int)) ∧ ((decide ((ix y v) < (ix y best1))) = true → 0 ≤ best1 ∧ best1 < (y.length : Int)) ∧ ((decide ((ix y v) < (ix y best1))) = true → 0 ≤ (0 : Int) ∧ (0 : Int) < (y.length : Int)) ∧ ((decide ((ix y v) < (ix y best1))) = true → (boundary_compareShare (IntKind.i64.wrap ((ix y v) + (ix y best1))) (IntKind.i64.wrap ((2 : Int) * (ix y (0 : Int)))) share).isSome = true)) <|
      bif ((decide ((ix y v) < (ix y best1))) && (decide ((0 : Int) < ((boundary_compareShare (IntKind.i64.wrap ((ix y v) + (ix y best1))) (IntKind.i64.wrap ((2 : Int) * (ix y (0 : Int)))) share).getD default)))) then
        boundary_nearest_j2 v v
      else
        boundary_nearest_j2 v best1
    else
      some (.inr best1)
noncomputable def boundary_nearest (d : api_Distribution) (share : api_Ratio) : Option Int :=
  (boundary_reaching d).bind fun y =>
  (iter (boundary_nearest_l3 share y) ((0 : Int), (0 : Int))).bind fun best2 =>
  boundary_nearest_j1 best2
/-- awardingbody boundary.Nearest -/
noncomputable def boundary_Nearest (d : api_Distribution) (share : api_Ratio) : Option (Int × Int) :=
  (boundary_check d share).bind fun y =>
  bif (y != (0 : Int)) then
    some ((0 : Int), y)
  else
    (boundary_nearest d share).bind fun y1 =>
    some (y1, (0 : Int))
/-- awardingbody awardingbodylaw35.BoundaryShares -/
noncomputable def law35_BoundaryShares_j1  : Option Bool :=
  (law35_sane).bind fun y14 =>
  some y14
noncomputable def law35_BoundaryShares_l2 (n : Int) (y3 : api_Distribution) (y5 : Int) (y10 : Int) : Int → Option (Int ⊕ (Unit ⊕ Bool)) :=
  fun y15 =>
    bif (decide (y15 ≤ (y3.Counts.length : Int))) then
      (law35_BoundaryShares_f2 y15 (IntKind.i64.wrap (Int.tmod n (13 : Int))) y5 y3).bind fun y16 =>
      (law35_BoundaryShares_f2 y10 (IntKind.i64.wrap (Int.tmod n (13 : Int))) y5 y3).bind fun y17 =>
      bif (!(decide (y16 < y17))) then
        (law35_BoundaryShares_f2 y15 (IntKind.i64.wrap (Int.tmod n (13 : Int))) y5 y3).bind fun y18 =>
        (law35_BoundaryShares_f2 y10 (IntKind.i64.wrap (Int.tmod n (13 : Int))) y5 y3).bind fun y19 =>
        bif ((decide (y16 < y17)) || ((y18 == y19) && (decide (y15 < y10)))) then
          some (.inr (.inr false))
        else
          some (.inl (IntKind.i64.wrap (y15 + (1 : Int))))
      else
        req (((!(decide (y16 < y17))) = true → false = true)) <|
        bif ((decide (y16 < y17)) || (((0 : Int) == (0 : Int)) && (decide (y15 < y10)))) then
          some (.inr (.inr false))
        else
          some (.inl (IntKind.i64.wrap (y15 + (1 : Int))))
    else
      some (.inr (.inl ()))
noncomputable def law35_BoundaryShares_j3  : Option Bool :=
  (law35_sane).bind fun y13 =>
  some y13
noncomputable def law35_BoundaryShares_l4 (n : Int) (y3 : api_Distribution) (y5 : Int) (y10 : Int) : Int → Option (Int ⊕ (Unit ⊕ Bool)) :=
  fun y14 =>
    bif (decide (y14 ≤ (y3.Counts.length : Int))) then
      (law35_BoundaryShares_f2 y14 (IntKind.i64.wrap (Int.tmod n (13 : Int))) y5 y3).bind fun y15 =>
      (law35_BoundaryShares_f2 y10 (IntKind.i64.wrap (Int.tmod n (13 : Int))) y5 y3).bind fun y16 =>
      bif (!(decide (y15 < y16))) then
        (law35_BoundaryShares_f2 y14 (IntKind.i64.wrap (Int.tmod n (13 : Int))) y5 y3).bind fun y17 =>
        (law35_BoundaryShares_f2 y10 (IntKind.i64.wrap (Int.tmod n (13 : Int))) y5 y3).bind fun y18 =>
        bif ((decide (y15 < y16)) || ((y17 == y18) && (decide (y14 < y10)))) then
          some (.inr (.inr false))
        else
          some (.inl (IntKind.i64.wrap (y14 + (1 : Int))))
      else
        req (((!(decide (y15 < y16))) = true → false = true)) <|
        bif ((decide (y15 < y16)) || (((0 : Int) == (0 : Int)) && (decide (y14 < y10)))) then
          some (.inr (.inr false))
        else
          some (.inl (IntKind.i64.wrap (y14 + (1 : Int))))
    else
      some (.inr (.inl ()))
noncomputable def law35_BoundaryShares_j5  : Option Bool :=
  (law35_sane).bind fun y13 =>
  some y13
noncomputable def law35_BoundaryShares_l6 (n : Int) (y3 : api_Distribution) (y5 : Int) (y10 : Int) : Int → Option (Int ⊕ (Unit ⊕ Bool)) :=
  fun y14 =>
    bif (decide (y14 ≤ (y3.Counts.length : Int))) then
      (law35_BoundaryShares_f2 y14 (IntKind.i64.wrap (Int.tmod n (13 : Int))) y5 y3).bind fun y15 =>
      (law35_BoundaryShares_f2 y10 (IntKind.i64.wrap (Int.tmod n (13 : Int))) y5 y3).bind fun y16 =>
      bif (!(decide (y15 < y16))) then
        (law35_BoundaryShares_f2 y14 (IntKind.i64.wrap (Int.tmod n (13 : Int))) y5 y3).bind fun y17 =>
        (law35_BoundaryShares_f2 y10 (IntKind.i64.wrap (Int.tmod n (13 : Int))) y5 y3).bind fun y18 =>
        bif ((decide (y15 < y16)) || ((y17 == y18) && (decide (y14 < y10)))) then
          some (.inr (.inr false))
        else
          some (.inl (IntKind.i64.wrap (y14 + (1 : Int))))
      else
        req (((!(decide (y15 < y16))) = true → false = true)) <|
        bif ((decide (y15 < y16)) || (((0 : Int) == (0 : Int)) && (decide (y14 < y10)))) then
          some (.inr (.inr false))
        else
          some (.inl (IntKind.i64.wrap (y14 + (1 : Int))))
    else
      some (.inr (.inl ()))
noncomputable def law35_BoundaryShares_j7  : Option Bool :=
  (law35_sane).bind fun y12 =>
  some y12
noncomputable def law35_BoundaryShares_l8 (n : Int) (y3 : api_Distribution) (y5 : Int) (y10 : Int) : Int → Option (Int ⊕ (Unit ⊕ Bool)) :=
  fun y13 =>
    bif (decide (y13 ≤ (y3.Counts.length : Int))) then
      (law35_BoundaryShares_f2 y13 (IntKind.i64.wrap (Int.tmod n (13 : Int))) y5 y3).bind fun y14 =>
      (law35_BoundaryShares_f2 y10 (IntKind.i64.wrap (Int.tmod n (13 : Int))) y5 y3).bind fun y15 =>
      bif (!(decide (y14 < y15))) then
        (law35_BoundaryShares_f2 y13 (IntKind.i64.wrap (Int.tmod n (13 : Int))) y5 y3).bind fun y16 =>
        (law35_BoundaryShares_f2 y10 (IntKind.i64.wrap (Int.tmod n (13 : Int))) y5 y3).bind fun y17 =>
        bif ((decide (y14 < y15)) || ((y16 == y17) && (decide (y13 < y10)))) then
          some (.inr (.inr false))
        else
          some (.inl (IntKind.i64.wrap (y13 + (1 : Int))))
      else
        req (((!(decide (y14 < y15))) = true → false = true)) <|
        bif ((decide (y14 < y15)) || (((0 : Int) == (0 : Int)) && (decide (y13 < y10)))) then
          some (.inr (.inr false))
        else
          some (.inl (IntKind.i64.wrap (y13 + (1 : Int))))
    else
      some (.inr (.inl ()))
noncomputable def law35_BoundaryShares (t : List Int) (n : Int) : Option Bool :=
  (mark_Light t).bind fun y =>
  bif (!y) then
    (law35_sane).bind fun y1 =>
    some y1
  else
    (mark_Roll t).bind fun y2 =>
    (mark_Dice_Distribution y2 (9 : Int) false).bind fun (y3, y4) =>
    (ref32_Count y3).bind fun y5 =>
    (ref01_New (IntKind.i64.wrap (Int.tmod n (13 : Int))) (12 : Int)).bind fun (y6, y7) =>
    (boundary_Share y3 y6).bind fun (y8, y9) =>
    (boundary_Nearest y3 y6).bind fun (y10, y11) =>
    bif (y7 != (0 : Int)) then
      some false
    else
      bif (y5 == (0 : Int)) then
        req ((((y9 == (10 : Int)) && (y11 == (10 : Int))) = true → (law35_sane).isSome = true)) <|
        some (((y9 == (10 : Int)) && (y11 == (10 : Int))) && ((law35_sane).getD default))
      else
        bif (!((y9 != (0 : Int)) || (y11 != (0 : Int)))) then
          (law35_BoundaryShares_f1 y8 y5 y3).bind fun y12 =>
          bif ((!(((y9 != (0 : Int)) || (y11 != (0 : Int))) || (decide ((IntKind.i64.wrap (y12 * (12 : Int))) < (IntKind.i64.wrap ((IntKind.i64.wrap (Int.tmod n (13 : Int))) * y5)))))) && (decide (y8 < (y3.Counts.length : Int)))) then
            (law35_BoundaryShares_f1 (IntKind.i64.wrap (y8 + (1 : Int))) y5 y3).bind fun y13 =>
            bif ((((y9 != (0 : Int)) || (y11 != (0 : Int))) || (decide ((IntKind.i64.wrap (y12 * (12 : Int))) < (IntKind.i64.wrap ((IntKind.i64.wrap (Int.tmod n (13 : Int))) * y5))))) || ((decide (y8 < (y3.Counts.length : Int))) && (decide ((IntKind.i64.wrap ((IntKind.i64.wrap (Int.tmod n (13 : Int))) * y5)) ≤ (IntKind.i64.wrap (y13 * (12 : Int))))))) then
              some false
            else
              (iter (law35_BoundaryShares_l2 n y3 y5 y10) (0 : Int)).bind fun x_ =>
              match x_ with
              | .inl () => law35_BoundaryShares_j1
              | .inr t_ => some t_
          else
            req (((!(((y9 != (0 : Int)) || (y11 != (0 : Int))) || (decide ((IntKind.i64.wrap (y12 * (12 : Int))) < (IntKind.i64.wrap ((IntKind.i64.wrap (Int.tmod n (13 : Int))) * y5)))))) = true → ((decide (y8 < (y3.Counts.length : Int))) = true → false = true))) <|
            bif ((((y9 != (0 : Int)) || (y11 != (0 : Int))) || (decide ((IntKind.i64.wrap (y12 * (12 : Int))) < (IntKind.i64.wrap ((IntKind.i64.wrap (Int.tmod n (13 : Int))) * y5))))) || ((decide (y8 < (y3.Counts.length : Int))) && (decide ((IntKind.i64.wrap ((IntKind.i64.wrap (Int.tmod n (13 : Int))) * y5)) ≤ (IntKind.i64.wrap ((0 : Int) * (12 : Int))))))) then
              some false
            else
              (iter (law35_BoundaryShares_l4 n y3 y5 y10) (0 : Int)).bind fun x_ =>
              match x_ with
              | .inl () => law35_BoundaryShares_j3
              | .inr t_ => some t_
        else
          req (((!((y9 != (0 : Int)) || (y11 != (0 : Int)))) = true → false = true)) <|
          bif ((!(((y9 != (0 : Int)) || (y11 != (0 : Int))) || (decide ((IntKind.i64.wrap ((0 : Int) * (12 : Int))) < (IntKind.i64.wrap ((IntKind.i64.wrap (Int.tmod n (13 : Int))) * y5)))))) && (decide (y8 < (y3.Counts.length : Int)))) then
            (law35_BoundaryShares_f1 (IntKind.i64.wrap (y8 + (1 : Int))) y5 y3).bind fun y12 =>
            bif ((((y9 != (0 : Int)) || (y11 != (0 : Int))) || (decide ((IntKind.i64.wrap ((0 : Int) * (12 : Int))) < (IntKind.i64.wrap ((IntKind.i64.wrap (Int.tmod n (13 : Int))) * y5))))) || ((decide (y8 < (y3.Counts.length : Int))) && (decide ((IntKind.i64.wrap ((IntKind.i64.wrap (Int.tmod n (13 : Int))) * y5)) ≤ (IntKind.i64.wrap (y12 * (12 : Int))))))) then
              some false
            else
              (iter (law35_BoundaryShares_l6 n y3 y5 y10) (0 : Int)).bind fun x_ =>
              match x_ with
              | .inl () => law35_BoundaryShares_j5
              | .inr t_ => some t_
          else
            req (((!(((y9 != (0 : Int)) || (y11 != (0 : Int))) || (decide ((IntKind.i64.wrap ((0 : Int) * (12 : Int))) < (IntKind.i64.wrap ((IntKind.i64.wrap (Int.tmod n (13 : Int))) * y5)))))) = true → ((decide (y8 < (y3.Counts.length : Int))) = true → false = true))) <|
            bif ((((y9 != (0 : Int)) || (y11 != (0 : Int))) || (decide ((IntKind.i64.wrap ((0 : Int) * (12 : Int))) < (IntKind.i64.wrap ((IntKind.i64.wrap (Int.tmod n (13 : Int))) * y5))))) || ((decide (y8 < (y3.Counts.length : Int))) && (decide ((IntKind.i64.wrap ((IntKind.i64.wrap (Int.tmod n (13 : Int))) * y5)) ≤ (IntKind.i64.wrap ((0 : Int) * (12 : Int))))))) then
              some false
            else
              (iter (law35_BoundaryShares_l8 n y3 y5 y10) (0 : Int)).bind fun x_ =>
              match x_ with
              | .inl () => law35_BoundaryShares_j7
              | .inr t_ => some t_
/-- awardingbody boundary.Reference -/
noncomputable def boundary_Reference_j1 (w : List Int) : Option ((List Int) × Int) :=
  some (w, (0 : Int))
noncomputable def boundary_Reference_j2 (v : Int) (w3 : List Int) : Option ((Int × (List Int)) ⊕ ((List Int) ⊕ ((List Int) × Int))) :=
  some (.inl ((IntKind.i64.wrap (v + (1 : Int))), w3))
noncomputable def boundary_Reference_l3 (d : api_Distribution) (b : List Int) (y4 : List Int) : (Int × (List Int)) → Option ((Int × (List Int)) ⊕ ((List Int) ⊕ ((List Int) × Int))) :=
  fun (v, w1) =>
    bif (decide (v < (b.length : Int))) then
      req ((0 ≤ v ∧ v < (b.length : Int))) <|
      req ((0 ≤ (ix b v) ∧ (ix b v) < (y4.length : Int)) ∧ (0 ≤ (0 : Int) ∧ (0 : Int) < (y4.length : Int))) <|
      (ratio_New (ix y4 (ix b v)) (ix y4 (0 : Int))).bind fun (y5, y6) =>
      bif (y6 != (0 : Int)) then
        some (.inr (.inr (([] : List Int), y6)))
      else
        (boundary_nearest d y5).bind fun y7 =>
        req ((0 ≤ v ∧ v < (w1.length : Int))) <|
        bif (decide ((0 : Int) < v)) then
          req ((0 ≤ v ∧ v < (w1.length : Int)) ∧ (0 ≤ (IntKind.i64.wrap (v - (1 : Int))) ∧ (IntKind.i64.wrap (v - (1 : Int))) < (w1.length : Int))) <|
          bindV (setI (setI w1 v y7) v (imin (ix (setI w1 v y7) v) (ix (setI w1 v y7) (IntKind.i64.wrap (v - (1 : Int)))))) fun w4 =>
          boundary_Reference_j2 v w4
        else
          boundary_Reference_j2 v (setI w1 v y7)
    else
      some (.inr (.inl w1))
noncomputable def boundary_Reference (d : api_Distribution) (reference : api_Distribution) (b : List Int) : Option ((List Int) × Int) :=
  (distribution_Valid d).bind fun y =>
  req (((!(!y)) = true → (distribution_Valid reference).isSome = true)) <|
  bif ((!y) || (!((distribution_Valid reference).getD default))) then
    some (([] : List Int), (1 : Int))
  else
    (distribution_Count d).bind fun y1 =>
    req (((!(y1 == (0 : Int))) = true → (distribution_Count reference).isSome = true)) <|
    bif ((y1 == (0 : Int)) || (((distribution_Count reference).getD default) == (0 : Int))) then
      some (([] : List Int), (10 : Int))
    else
      (boundary_greatest reference).bind fun y2 =>
      (boundary_Check b y2).bind fun y3 =>
      bif (y3 != (0 : Int)) then
        some (([] : List Int), y3)
      else
        (boundary_reaching reference).bind fun y4 =>
        req ((0 ≤ (b.length : Int) ∧ (b.length : Int) * 8 ≤ 140737488355328)) <|
        (iter (boundary_Reference_l3 d b y4) ((0 : Int), (rep (b.length : Int) (0 : Int)))).bind fun x_ =>
        match x_ with
        | .inl w2 => boundary_Reference_j1 w2
        | .inr t_ => some t_
/-- awardingbody awardingbodylaw35.BoundaryReference -/
noncomputable def law35_BoundaryReference_j1 (y3 : api_Distribution) (y5 : api_Distribution) (y9 : List Int) (y17 : List Int) (w : List Int) (w1 : List Int) : Option Bool :=
  (boundary_Reference (api_Distribution.mk w) y5 y9).bind fun (y19, y20) =>
  (boundary_Reference y3 (api_Distribution.mk w1) y9).bind fun (y21, y22) =>
  req ((((y20 == (0 : Int)) && (y22 == (0 : Int))) = true → (law35_same y19 y17).isSome = true) ∧ ((((y20 == (0 : Int)) && (y22 == (0 : Int))) && ((law35_same y19 y17).getD default)) = true → (law35_same y21 y17).isSome = true) ∧ (((((y20 == (0 : Int)) && (y22 == (0 : Int))) && ((law35_same y19 y17).getD default)) && ((law35_same y21 y17).getD default)) = true → (law35_sane).isSome = true)) <|
  some (((((y20 == (0 : Int)) && (y22 == (0 : Int))) && ((law35_same y19 y17).getD default)) && ((law35_same y21 y17).getD default)) && ((law35_sane).getD default))
noncomputable def law35_BoundaryReference_l2 (y5 : api_Distribution) (k : Int) : (Int × (List Int)) → Option ((Int × (List Int)) ⊕ (List Int)) :=
  fun (v, w2) =>
    bif (decide (v < (y5.Counts.length : Int))) then
      req ((0 ≤ v ∧ v < (y5.Counts.length : Int))) <|
      req ((w2.length + ([(IntKind.i64.wrap ((ix y5.Counts v) * k))]).length) * 8 ≤ 140737488355328) <|
      some (.inl ((IntKind.i64.wrap (v + (1 : Int))), (w2 ++ [(IntKind.i64.wrap ((ix y5.Counts v) * k))])))
    else
      some (.inr w2)
noncomputable def law35_BoundaryReference_j3 (y3 : api_Distribution) (y5 : api_Distribution) (y9 : List Int) (y17 : List Int) (k : Int) (w : List Int) : Option Bool :=
  (iter (law35_BoundaryReference_l2 y5 k) ((0 : Int), ([] : List Int))).bind fun w3 =>
  law35_BoundaryReference_j1 y3 y5 y9 y17 w w3
noncomputable def law35_BoundaryReference_l4 (y3 : api_Distribution) (k : Int) : (Int × (List Int)) → Option ((Int × (List Int)) ⊕ (List Int)) :=
  fun (v1, w4) =>
    bif (decide (v1 < (y3.Counts.length : Int))) then
      req ((0 ≤ v1 ∧ v1 < (y3.Counts.length : Int))) <|
      req ((w4.length + ([(IntKind.i64.wrap ((ix y3.Counts v1) * k))]).length) * 8 ≤ 140737488355328) <|
      some (.inl ((IntKind.i64.wrap (v1 + (1 : Int))), (w4 ++ [(IntKind.i64.wrap ((ix y3.Counts v1) * k))])))
    else
      some (.inr w4)
noncomputable def law35_BoundaryReference_j5 (times : Int) (y3 : api_Distribution) (y5 : api_Distribution) (y9 : List Int) (y17 : List Int) : Option Bool :=
  bindV (IntKind.i64.wrap ((1 : Int) + (IntKind.i64.wrap (Int.tmod times (5 : Int))))) fun k =>
  (iter (law35_BoundaryReference_l4 y3 k) ((0 : Int), ([] : List Int))).bind fun w5 =>
  law35_BoundaryReference_j3 y3 y5 y9 y17 k w5
noncomputable def law35_BoundaryReference_l6 (y17 : List Int) : Int → Option (Int ⊕ (Unit ⊕ Bool)) :=
  fun i =>
    bif (decide (i < (y17.length : Int))) then
      req ((0 ≤ i ∧ i < (y17.length : Int)) ∧ (0 ≤ (IntKind.i64.wrap (i - (1 : Int))) ∧ (IntKind.i64.wrap (i - (1 : Int))) < (y17.length : Int))) <|
      bif (decide ((ix y17 (IntKind.i64.wrap (i - (1 : Int)))) < (ix y17 i))) then
        some (.inr (.inr false))
      else
        some (.inl (IntKind.i64.wrap (i + (1 : Int))))
    else
      some (.inr (.inl ()))
noncomputable def law35_BoundaryReference (t : List Int) (times : Int) : Option Bool :=
  (mark_Light t).bind fun y =>
  bif (!y) then
    (law35_sane).bind fun y1 =>
    some y1
  else
    (mark_Roll t).bind fun y2 =>
    (mark_Dice_Distribution y2 (9 : Int) false).bind fun (y3, y4) =>
    (mark_Dice_Distribution y4 (9 : Int) false).bind fun (y5, y6) =>
    (ref32_Count y3).bind fun y7 =>
    req (((!(y7 == (0 : Int))) = true → (ref32_Count y5).isSome = true)) <|
    bif ((y7 == (0 : Int)) || (((ref32_Count y5).getD default) == (0 : Int))) then
      (law35_sane).bind fun y8 =>
      some y8
    else
      (mark_Dice_Bounds y6 (IntKind.i64.wrap ((y5.Counts.length : Int) - (1 : Int)))).bind fun (y9, y10) =>
      (boundary_Reference y5 y5 y9).bind fun (y11, y12) =>
      (boundary_Tally y5 y11).bind fun (y13, y14) =>
      (boundary_Tally y5 y9).bind fun (y15, y16) =>
      (boundary_Reference y3 y5 y9).bind fun (y17, y18) =>
      req (((!((((y12 != (0 : Int)) || (y14 != (0 : Int))) || (y16 != (0 : Int))) || (y18 != (0 : Int)))) = true → (law35_same y13 y15).isSome = true)) <|
      bif (((((y12 != (0 : Int)) || (y14 != (0 : Int))) || (y16 != (0 : Int))) || (y18 != (0 : Int))) || (!((law35_same y13 y15).getD default))) then
        some false
      else
        (iter (law35_BoundaryReference_l6 y17) (1 : Int)).bind fun x_ =>
        match x_ with
        | .inl () => law35_BoundaryReference_j5 times y3 y5 y9 y17
        | .inr t_ => some t_
end Go.LS
