/-
  Plain functions that the program's functions compute. No condition: definitions, printed by dec.py.
-/
import Derived.Test.YtkgmiidcilkmlaaD0
namespace Go.LS
set_option linter.all false
set_option linter.unusedSimpArgs false
set_option linter.unusedVariables false
set_option maxRecDepth 20000

/-- cmp.isNaN[int] -/
noncomputable def cmp_isNaN_int (x : Int) : Option Bool :=
  some (x != x)
/-- cmp.Compare[int] -/
noncomputable def cmp_Compare_int (x : Int) (y : Int) : Option Int :=
  (cmp_isNaN_int x).bind fun y1 =>
  (cmp_isNaN_int y).bind fun y2 =>
  bif y1 then
    bif y2 then
      some (0 : Int)
    else
      some (-1 : Int)
  else
    bif y2 then
      some (1 : Int)
    else
      bif (decide (x < y)) then
        some (-1 : Int)
      else
        bif (decide (y < x)) then
          some (1 : Int)
        else
          some (0 : Int)
/-- awardingbody ratio.Apportion$1 -/
noncomputable def ratio_Apportion_f1 (i : Int) (j : Int) (c : Int) (c_1 : List Int) (c_2 : Int) : Option Int :=
  req ((0 ≤ j ∧ j < (c_1.length : Int)) ∧ c_2 ≠ 0 ∧ (0 ≤ i ∧ i < (c_1.length : Int))) <|
  (cmp_Compare_int (Int.tmod (IntKind.i64.wrap (c * (ix c_1 j))) c_2) (Int.tmod (IntKind.i64.wrap (c * (ix c_1 i))) c_2)).bind fun y =>
  some y
/-- slices.insertionSortCmpFunc[int] -/
noncomputable def slices_insertionSortCmpFunc_int_ratio_Apportion_f1_j1 (i : Int) (data3 : List Int) : Option ((Int × (List Int)) ⊕ (List Int)) :=
  some (.inl ((IntKind.i64.wrap (i + (1 : Int))), data3))
noncomputable def slices_insertionSortCmpFunc_int_ratio_Apportion_f1_l2 (a : Int) (cmp_c : Int) (cmp_c_1 : List Int) (cmp_c_2 : Int) : (Int × (List Int)) → Option ((Int × (List Int)) ⊕ (List Int)) :=
  fun (j, data4) =>
    req (((decide (a < j)) = true → 0 ≤ j ∧ j < (data4.length : Int)) ∧ ((decide (a < j)) = true → 0 ≤ (IntKind.i64.wrap (j - (1 : Int))) ∧ (IntKind.i64.wrap (j - (1 : Int))) < (data4.length : Int))) <|
    bif (decide (a < j)) then
      (ratio_Apportion_f1 (ix data4 j) (ix data4 (IntKind.i64.wrap (j - (1 : Int)))) cmp_c cmp_c_1 cmp_c_2).bind fun y =>
      bif (decide (y < (0 : Int))) then
        req ((0 ≤ (IntKind.i64.wrap (j - (1 : Int))) ∧ (IntKind.i64.wrap (j - (1 : Int))) < (data4.length : Int)) ∧ (0 ≤ j ∧ j < (data4.length : Int))) <|
        bindV (setI (setI data4 j (ix data4 (IntKind.i64.wrap (j - (1 : Int))))) (IntKind.i64.wrap (j - (1 : Int))) (ix data4 j)) fun data6 =>
        some (.inl ((IntKind.i64.wrap (j - (1 : Int))), data6))
      else
        some (.inr data4)
    else
      some (.inr data4)
noncomputable def slices_insertionSortCmpFunc_int_ratio_Apportion_f1_l3 (a : Int) (b : Int) (cmp_c : Int) (cmp_c_1 : List Int) (cmp_c_2 : Int) : (Int × (List Int)) → Option ((Int × (List Int)) ⊕ (List Int)) :=
  fun (i, data1) =>
    bif (decide (i < b)) then
      (iter (slices_insertionSortCmpFunc_int_ratio_Apportion_f1_l2 a cmp_c cmp_c_1 cmp_c_2) (i, data1)).bind fun data5 =>
      slices_insertionSortCmpFunc_int_ratio_Apportion_f1_j1 i data5
    else
      some (.inr data1)
noncomputable def slices_insertionSortCmpFunc_int_ratio_Apportion_f1 (data : List Int) (a : Int) (b : Int) (cmp_c : Int) (cmp_c_1 : List Int) (cmp_c_2 : Int) : Option (List Int) :=
  (iter (slices_insertionSortCmpFunc_int_ratio_Apportion_f1_l3 a b cmp_c cmp_c_1 cmp_c_2) ((IntKind.i64.wrap (a + (1 : Int))), data)).bind fun data2 =>
  some data2
/-- slices.swapRangeCmpFunc[int] -/
noncomputable def slices_swapRangeCmpFunc_int_ratio_Apportion_f1_l1 (a : Int) (b : Int) (n : Int) : (Int × (List Int)) → Option ((Int × (List Int)) ⊕ (List Int)) :=
  fun (i, data1) =>
    bif (decide (i < n)) then
      req ((0 ≤ (IntKind.i64.wrap (b + i)) ∧ (IntKind.i64.wrap (b + i)) < (data1.length : Int)) ∧ (0 ≤ (IntKind.i64.wrap (a + i)) ∧ (IntKind.i64.wrap (a + i)) < (data1.length : Int))) <|
      bindV (setI (setI data1 (IntKind.i64.wrap (a + i)) (ix data1 (IntKind.i64.wrap (b + i)))) (IntKind.i64.wrap (b + i)) (ix data1 (IntKind.i64.wrap (a + i)))) fun data3 =>
      some (.inl ((IntKind.i64.wrap (i + (1 : Int))), data3))
    else
      some (.inr data1)
noncomputable def slices_swapRangeCmpFunc_int_ratio_Apportion_f1 (data : List Int) (a : Int) (b : Int) (n : Int) (cmp_c : Int) (cmp_c_1 : List Int) (cmp_c_2 : Int) : Option (List Int) :=
  (iter (slices_swapRangeCmpFunc_int_ratio_Apportion_f1_l1 a b n) ((0 : Int), data)).bind fun data2 =>
  some data2
/-- slices.rotateCmpFunc[int] -/
noncomputable def slices_rotateCmpFunc_int_ratio_Apportion_f1_j1 (m : Int) (cmp_c : Int) (cmp_c_1 : List Int) (cmp_c_2 : Int) (i : Int) (data1 : List Int) : Option (List Int) :=
  (slices_swapRangeCmpFunc_int_ratio_Apportion_f1 data1 (IntKind.i64.wrap (m - i)) m i cmp_c cmp_c_1 cmp_c_2).bind fun y =>
  req (y.length = data1.length) <|
  some y
noncomputable def slices_rotateCmpFunc_int_ratio_Apportion_f1_l2 (m : Int) (cmp_c : Int) (cmp_c_1 : List Int) (cmp_c_2 : Int) : (Int × Int × (List Int)) → Option ((Int × Int × (List Int)) ⊕ (Int × (List Int))) :=
  fun (i1, j, data2) =>
    bif (i1 != j) then
      bif (decide (j < i1)) then
        (slices_swapRangeCmpFunc_int_ratio_Apportion_f1 data2 (IntKind.i64.wrap (m - i1)) m j cmp_c cmp_c_1 cmp_c_2).bind fun y1 =>
        req (y1.length = data2.length) <|
        some (.inl ((IntKind.i64.wrap (i1 - j)), j, y1))
      else
        (slices_swapRangeCmpFunc_int_ratio_Apportion_f1 data2 (IntKind.i64.wrap (m - i1)) (IntKind.i64.wrap ((IntKind.i64.wrap (m + j)) - i1)) i1 cmp_c cmp_c_1 cmp_c_2).bind fun y2 =>
        req (y2.length = data2.length) <|
        some (.inl (i1, (IntKind.i64.wrap (j - i1)), y2))
    else
      some (.inr (i1, data2))
noncomputable def slices_rotateCmpFunc_int_ratio_Apportion_f1 (data : List Int) (a : Int) (m : Int) (b : Int) (cmp_c : Int) (cmp_c_1 : List Int) (cmp_c_2 : Int) : Option (List Int) :=
  (iter (slices_rotateCmpFunc_int_ratio_Apportion_f1_l2 m cmp_c cmp_c_1 cmp_c_2) ((IntKind.i64.wrap (m - a)), (IntKind.i64.wrap (b - m)), data)).bind fun (i2, data3) =>
  slices_rotateCmpFunc_int_ratio_Apportion_f1_j1 m cmp_c cmp_c_1 cmp_c_2 i2 data3
/-- slices.symMergeCmpFunc[int] -/
noncomputable def slices_symMergeCmpFunc_int_ratio_Apportion_f1_j1 (m : Int) (b : Int) (cmp_c : Int) (cmp_c_1 : List Int) (cmp_c_2 : Int) (rec_ : (List Int) → Int → Int → Int → Int → (List Int) → Int → Option (List Int)) (mid : Int) (start1 : Int) (data2 : List Int) : Option (List Int) :=
  bif ((decide (mid < (IntKind.i64.wrap ((IntKind.i64.wrap (mid + m)) - start1)))) && (decide ((IntKind.i64.wrap ((IntKind.i64.wrap (mid + m)) - start1)) < b))) then
    (rec_ data2 mid (IntKind.i64.wrap ((IntKind.i64.wrap (mid + m)) - start1)) b cmp_c cmp_c_1 cmp_c_2).bind fun y =>
    req (y.length = data2.length) <|
    some y
  else
    some data2
noncomputable def slices_symMergeCmpFunc_int_ratio_Apportion_f1_j2 (a : Int) (m : Int) (b : Int) (cmp_c : Int) (cmp_c_1 : List Int) (cmp_c_2 : Int) (rec_ : (List Int) → Int → Int → Int → Int → (List Int) → Int → Option (List Int)) (mid : Int) (start1 : Int) (data1 : List Int) : Option (List Int) :=
  bif ((decide (a < start1)) && (decide (start1 < mid))) then
    (rec_ data1 a start1 mid cmp_c cmp_c_1 cmp_c_2).bind fun y1 =>
    req (y1.length = data1.length) <|
    slices_symMergeCmpFunc_int_ratio_Apportion_f1_j1 m b cmp_c cmp_c_1 cmp_c_2 rec_ mid start1 y1
  else
    slices_symMergeCmpFunc_int_ratio_Apportion_f1_j1 m b cmp_c cmp_c_1 cmp_c_2 rec_ mid start1 data1
noncomputable def slices_symMergeCmpFunc_int_ratio_Apportion_f1_j3 (data : List Int) (a : Int) (m : Int) (b : Int) (cmp_c : Int) (cmp_c_1 : List Int) (cmp_c_2 : Int) (rec_ : (List Int) → Int → Int → Int → Int → (List Int) → Int → Option (List Int)) (mid : Int) (start1 : Int) : Option (List Int) :=
  bif ((decide (start1 < m)) && (decide (m < (IntKind.i64.wrap ((IntKind.i64.wrap (mid + m)) - start1))))) then
    (slices_rotateCmpFunc_int_ratio_Apportion_f1 data start1 m (IntKind.i64.wrap ((IntKind.i64.wrap (mid + m)) - start1)) cmp_c cmp_c_1 cmp_c_2).bind fun y2 =>
    req (y2.length = data.length) <|
    slices_symMergeCmpFunc_int_ratio_Apportion_f1_j2 a m b cmp_c cmp_c_1 cmp_c_2 rec_ mid start1 y2
  else
    slices_symMergeCmpFunc_int_ratio_Apportion_f1_j2 a m b cmp_c cmp_c_1 cmp_c_2 rec_ mid start1 data
noncomputable def slices_symMergeCmpFunc_int_ratio_Apportion_f1_l4 (data : List Int) (m : Int) (cmp_c : Int) (cmp_c_1 : List Int) (cmp_c_2 : Int) (mid : Int) : (Int × Int) → Option ((Int × Int) ⊕ Int) :=
  fun (start2, r1) =>
    bif (decide (start2 < r1)) then
      bindV (IntKind.i64.wrap (bShr .u64 (IntKind.u64.wrap (IntKind.i64.wrap (start2 + r1))) (1 : Int))) fun c =>
      req ((0 ≤ (IntKind.i64.wrap ((IntKind.i64.wrap ((IntKind.i64.wrap (mid + m)) - (1 : Int))) - c)) ∧ (IntKind.i64.wrap ((IntKind.i64.wrap ((IntKind.i64.wrap (mid + m)) - (1 : Int))) - c)) < (data.length : Int)) ∧ (0 ≤ c ∧ c < (data.length : Int))) <|
      (ratio_Apportion_f1 (ix data (IntKind.i64.wrap ((IntKind.i64.wrap ((IntKind.i64.wrap (mid + m)) - (1 : Int))) - c))) (ix data c) cmp_c cmp_c_1 cmp_c_2).bind fun y3 =>
      bif (!(decide (y3 < (0 : Int)))) then
        some (.inl ((IntKind.i64.wrap (c + (1 : Int))), r1))
      else
        some (.inl (start2, c))
    else
      some (.inr start2)
noncomputable def slices_symMergeCmpFunc_int_ratio_Apportion_f1_j5 (data : List Int) (a : Int) (m : Int) (b : Int) (cmp_c : Int) (cmp_c_1 : List Int) (cmp_c_2 : Int) (rec_ : (List Int) → Int → Int → Int → Int → (List Int) → Int → Option (List Int)) (mid : Int) (start : Int) (r : Int) : Option (List Int) :=
  (iter (slices_symMergeCmpFunc_int_ratio_Apportion_f1_l4 data m cmp_c cmp_c_1 cmp_c_2 mid) (start, r)).bind fun start3 =>
  slices_symMergeCmpFunc_int_ratio_Apportion_f1_j3 data a m b cmp_c cmp_c_1 cmp_c_2 rec_ mid start3
noncomputable def slices_symMergeCmpFunc_int_ratio_Apportion_f1_j6 (data : List Int) (a : Int) (m : Int) (b : Int) (cmp_c : Int) (cmp_c_1 : List Int) (cmp_c_2 : Int) (rec_ : (List Int) → Int → Int → Int → Int → (List Int) → Int → Option (List Int)) : Option (List Int) :=
  bindV (IntKind.i64.wrap (bShr .u64 (IntKind.u64.wrap (IntKind.i64.wrap (a + b))) (1 : Int))) fun mid =>
  bif (decide (mid < m)) then
    slices_symMergeCmpFunc_int_ratio_Apportion_f1_j5 data a m b cmp_c cmp_c_1 cmp_c_2 rec_ mid (IntKind.i64.wrap ((IntKind.i64.wrap (mid + m)) - b)) mid
  else
    slices_symMergeCmpFunc_int_ratio_Apportion_f1_j5 data a m b cmp_c cmp_c_1 cmp_c_2 rec_ mid a m
noncomputable def slices_symMergeCmpFunc_int_ratio_Apportion_f1_j7 (data3 : List Int) : Option (List Int) :=
  some data3
noncomputable def slices_symMergeCmpFunc_int_ratio_Apportion_f1_l8 (i : Int) : (Int × (List Int)) → Option ((Int × (List Int)) ⊕ (List Int)) :=
  fun (k, data4) =>
    bif (decide (i < k)) then
      req ((0 ≤ (IntKind.i64.wrap (k - (1 : Int))) ∧ (IntKind.i64.wrap (k - (1 : Int))) < (data4.length : Int)) ∧ (0 ≤ k ∧ k < (data4.length : Int))) <|
      bindV (setI (setI data4 k (ix data4 (IntKind.i64.wrap (k - (1 : Int))))) (IntKind.i64.wrap (k - (1 : Int))) (ix data4 k)) fun data6 =>
      some (.inl ((IntKind.i64.wrap (k - (1 : Int))), data6))
    else
      some (.inr data4)
noncomputable def slices_symMergeCmpFunc_int_ratio_Apportion_f1_j9 (data : List Int) (m : Int) (i : Int) : Option (List Int) :=
  (iter (slices_symMergeCmpFunc_int_ratio_Apportion_f1_l8 i) (m, data)).bind fun data5 =>
  slices_symMergeCmpFunc_int_ratio_Apportion_f1_j7 data5
noncomputable def slices_symMergeCmpFunc_int_ratio_Apportion_f1_l10 (data : List Int) (m : Int) (cmp_c : Int) (cmp_c_1 : List Int) (cmp_c_2 : Int) : (Int × Int) → Option ((Int × Int) ⊕ Int) :=
  fun (i1, j) =>
    bif (decide (i1 < j)) then
      bindV (IntKind.i64.wrap (bShr .u64 (IntKind.u64.wrap (IntKind.i64.wrap (i1 + j))) (1 : Int))) fun h =>
      req ((0 ≤ m ∧ m < (data.length : Int)) ∧ (0 ≤ h ∧ h < (data.length : Int))) <|
      (ratio_Apportion_f1 (ix data m) (ix data h) cmp_c cmp_c_1 cmp_c_2).bind fun y4 =>
      bif (!(decide (y4 < (0 : Int)))) then
        some (.inl ((IntKind.i64.wrap (h + (1 : Int))), j))
      else
        some (.inl (i1, h))
    else
      some (.inr i1)
noncomputable def slices_symMergeCmpFunc_int_ratio_Apportion_f1_j11 (data : List Int) (a : Int) (m : Int) (b : Int) (cmp_c : Int) (cmp_c_1 : List Int) (cmp_c_2 : Int) (rec_ : (List Int) → Int → Int → Int → Int → (List Int) → Int → Option (List Int)) : Option (List Int) :=
  bif ((IntKind.i64.wrap (b - m)) == (1 : Int)) then
    (iter (slices_symMergeCmpFunc_int_ratio_Apportion_f1_l10 data m cmp_c cmp_c_1 cmp_c_2) (a, m)).bind fun i2 =>
    slices_symMergeCmpFunc_int_ratio_Apportion_f1_j9 data m i2
  else
    slices_symMergeCmpFunc_int_ratio_Apportion_f1_j6 data a m b cmp_c cmp_c_1 cmp_c_2 rec_
noncomputable def slices_symMergeCmpFunc_int_ratio_Apportion_f1_j12 (data7 : List Int) : Option (List Int) :=
  some data7
noncomputable def slices_symMergeCmpFunc_int_ratio_Apportion_f1_l13 (i3 : Int) : (Int × (List Int)) → Option ((Int × (List Int)) ⊕ (List Int)) :=
  fun (k1, data8) =>
    bif (decide (k1 < (IntKind.i64.wrap (i3 - (1 : Int))))) then
      req ((0 ≤ (IntKind.i64.wrap (k1 + (1 : Int))) ∧ (IntKind.i64.wrap (k1 + (1 : Int))) < (data8.length : Int)) ∧ (0 ≤ k1 ∧ k1 < (data8.length : Int))) <|
      bindV (setI (setI data8 k1 (ix data8 (IntKind.i64.wrap (k1 + (1 : Int))))) (IntKind.i64.wrap (k1 + (1 : Int))) (ix data8 k1)) fun data10 =>
      some (.inl ((IntKind.i64.wrap (k1 + (1 : Int))), data10))
    else
      some (.inr data8)
noncomputable def slices_symMergeCmpFunc_int_ratio_Apportion_f1_j14 (data : List Int) (a : Int) (i3 : Int) : Option (List Int) :=
  (iter (slices_symMergeCmpFunc_int_ratio_Apportion_f1_l13 i3) (a, data)).bind fun data9 =>
  slices_symMergeCmpFunc_int_ratio_Apportion_f1_j12 data9
noncomputable def slices_symMergeCmpFunc_int_ratio_Apportion_f1_l15 (data : List Int) (a : Int) (cmp_c : Int) (cmp_c_1 : List Int) (cmp_c_2 : Int) : (Int × Int) → Option ((Int × Int) ⊕ Int) :=
  fun (i4, j1) =>
    bif (decide (i4 < j1)) then
      bindV (IntKind.i64.wrap (bShr .u64 (IntKind.u64.wrap (IntKind.i64.wrap (i4 + j1))) (1 : Int))) fun h1 =>
      req ((0 ≤ h1 ∧ h1 < (data.length : Int)) ∧ (0 ≤ a ∧ a < (data.length : Int))) <|
      (ratio_Apportion_f1 (ix data h1) (ix data a) cmp_c cmp_c_1 cmp_c_2).bind fun y5 =>
      bif (decide (y5 < (0 : Int))) then
        some (.inl ((IntKind.i64.wrap (h1 + (1 : Int))), j1))
      else
        some (.inl (i4, h1))
    else
      some (.inr i4)
noncomputable def slices_symMergeCmpFunc_int_ratio_Apportion_f1_b (rec_ : (List Int) → Int → Int → Int → Int → (List Int) → Int → Option (List Int)) (data : List Int) (a : Int) (m : Int) (b : Int) (cmp_c : Int) (cmp_c_1 : List Int) (cmp_c_2 : Int) : Option (List Int) :=
  bif ((IntKind.i64.wrap (m - a)) == (1 : Int)) then
    (iter (slices_symMergeCmpFunc_int_ratio_Apportion_f1_l15 data a cmp_c cmp_c_1 cmp_c_2) (m, b)).bind fun i5 =>
    slices_symMergeCmpFunc_int_ratio_Apportion_f1_j14 data a i5
  else
    slices_symMergeCmpFunc_int_ratio_Apportion_f1_j11 data a m b cmp_c cmp_c_1 cmp_c_2 rec_
noncomputable def slices_symMergeCmpFunc_int_ratio_Apportion_f1 : Nat → (List Int) → Int → Int → Int → Int → (List Int) → Int → Option (List Int)
  | 0 => fun _ _ _ _ _ _ _ => none
  | fuel_ + 1 => slices_symMergeCmpFunc_int_ratio_Apportion_f1_b (slices_symMergeCmpFunc_int_ratio_Apportion_f1 fuel_)
/-- slices.stableCmpFunc[int] -/
noncomputable def slices_stableCmpFunc_int_ratio_Apportion_f1_j1 (blockSize : Int) (data5 : List Int) : Option ((Int × (List Int)) ⊕ (List Int)) :=
  some (.inl ((IntKind.i64.wrap (blockSize * (2 : Int))), data5))
noncomputable def slices_stableCmpFunc_int_ratio_Apportion_f1_j2 (n : Int) (cmp_c : Int) (cmp_c_1 : List Int) (cmp_c_2 : Int) (blockSize : Int) (a1 : Int) (data4 : List Int) : Option ((Int × (List Int)) ⊕ (List Int)) :=
  bif (decide ((IntKind.i64.wrap (a1 + blockSize)) < n)) then
    (slices_symMergeCmpFunc_int_ratio_Apportion_f1 1000 data4 a1 (IntKind.i64.wrap (a1 + blockSize)) n cmp_c cmp_c_1 cmp_c_2).bind fun y1 =>
    req (y1.length = data4.length) <|
    slices_stableCmpFunc_int_ratio_Apportion_f1_j1 blockSize y1
  else
    slices_stableCmpFunc_int_ratio_Apportion_f1_j1 blockSize data4
noncomputable def slices_stableCmpFunc_int_ratio_Apportion_f1_l3 (n : Int) (cmp_c : Int) (cmp_c_1 : List Int) (cmp_c_2 : Int) (blockSize : Int) : (Int × Int × (List Int)) → Option ((Int × Int × (List Int)) ⊕ (Int × (List Int))) :=
  fun (a2, b, data6) =>
    bif (decide (b ≤ n)) then
      (slices_symMergeCmpFunc_int_ratio_Apportion_f1 1000 data6 a2 (IntKind.i64.wrap (a2 + blockSize)) b cmp_c cmp_c_1 cmp_c_2).bind fun y2 =>
      req (y2.length = data6.length) <|
      some (.inl (b, (IntKind.i64.wrap (b + (IntKind.i64.wrap ((2 : Int) * blockSize)))), y2))
    else
      some (.inr (a2, data6))
noncomputable def slices_stableCmpFunc_int_ratio_Apportion_f1_l4 (n : Int) (cmp_c : Int) (cmp_c_1 : List Int) (cmp_c_2 : Int) : (Int × (List Int)) → Option ((Int × (List Int)) ⊕ (List Int)) :=
  fun (blockSize, data2) =>
    bif (decide (blockSize < n)) then
      (iter (slices_stableCmpFunc_int_ratio_Apportion_f1_l3 n cmp_c cmp_c_1 cmp_c_2 blockSize) ((0 : Int), (IntKind.i64.wrap ((2 : Int) * blockSize)), data2)).bind fun (a3, data7) =>
      slices_stableCmpFunc_int_ratio_Apportion_f1_j2 n cmp_c cmp_c_1 cmp_c_2 blockSize a3 data7
    else
      some (.inr data2)
noncomputable def slices_stableCmpFunc_int_ratio_Apportion_f1_j5 (n : Int) (cmp_c : Int) (cmp_c_1 : List Int) (cmp_c_2 : Int) (a : Int) (data1 : List Int) : Option (List Int) :=
  (slices_insertionSortCmpFunc_int_ratio_Apportion_f1 data1 a n cmp_c cmp_c_1 cmp_c_2).bind fun y =>
  req (y.length = data1.length) <|
  (iter (slices_stableCmpFunc_int_ratio_Apportion_f1_l4 n cmp_c cmp_c_1 cmp_c_2) ((20 : Int), y)).bind fun data3 =>
  some data3
noncomputable def slices_stableCmpFunc_int_ratio_Apportion_f1_l6 (n : Int) (cmp_c : Int) (cmp_c_1 : List Int) (cmp_c_2 : Int) : (Int × Int × (List Int)) → Option ((Int × Int × (List Int)) ⊕ (Int × (List Int))) :=
  fun (a4, b1, data8) =>
    bif (decide (b1 ≤ n)) then
      (slices_insertionSortCmpFunc_int_ratio_Apportion_f1 data8 a4 b1 cmp_c cmp_c_1 cmp_c_2).bind fun y3 =>
      req (y3.length = data8.length) <|
      some (.inl (b1, (IntKind.i64.wrap (b1 + (20 : Int))), y3))
    else
      some (.inr (a4, data8))
noncomputable def slices_stableCmpFunc_int_ratio_Apportion_f1 (data : List Int) (n : Int) (cmp_c : Int) (cmp_c_1 : List Int) (cmp_c_2 : Int) : Option (List Int) :=
  (iter (slices_stableCmpFunc_int_ratio_Apportion_f1_l6 n cmp_c cmp_c_1 cmp_c_2) ((0 : Int), (20 : Int), data)).bind fun (a5, data9) =>
  slices_stableCmpFunc_int_ratio_Apportion_f1_j5 n cmp_c cmp_c_1 cmp_c_2 a5 data9
/-- slices.SortStableFunc[[]int,int] -/
noncomputable def slices_SortStableFunc_intint_ratio_Apportion_f1 (x : List Int) (cmp_c : Int) (cmp_c_1 : List Int) (cmp_c_2 : Int) : Option (List Int) :=
  (slices_stableCmpFunc_int_ratio_Apportion_f1 x (x.length : Int) cmp_c cmp_c_1 cmp_c_2).bind fun y =>
  req (y.length = x.length) <|
  some y
/-- awardingbody ratio.Apportion -/
noncomputable def ratio_Apportion_j1 (w2 : List Int) : Option ((List Int) × Int) :=
  some (w2, (0 : Int))
noncomputable def ratio_Apportion_l2 (left : Int) (y : List Int) : (Int × (List Int)) → Option ((Int × (List Int)) ⊕ (List Int)) :=
  fun (k, w3) =>
    bif ((decide (k < left)) && (decide (k < (y.length : Int)))) then
      req ((0 ≤ k ∧ k < (y.length : Int)) ∧ (0 ≤ (ix y k) ∧ (ix y k) < (w3.length : Int))) <|
      some (.inl ((IntKind.i64.wrap (k + (1 : Int))), (setI w3 (ix y k) (IntKind.i64.wrap ((ix w3 (ix y k)) + (1 : Int))))))
    else
      some (.inr w3)
noncomputable def ratio_Apportion_j3 (total : Int) (weights : List Int) (sum : Int) (left : Int) (w : List Int) (w1 : List Int) : Option ((List Int) × Int) :=
  (slices_SortStableFunc_intint_ratio_Apportion_f1 w1 total weights sum).bind fun y =>
  req (y.length = w1.length) <|
  (iter (ratio_Apportion_l2 left y) ((0 : Int), w)).bind fun w4 =>
  ratio_Apportion_j1 w4
noncomputable def ratio_Apportion_l4 (total : Int) (weights : List Int) (sum : Int) : (Int × Int × (List Int) × (List Int)) → Option ((Int × Int × (List Int) × (List Int)) ⊕ (Int × (List Int) × (List Int))) :=
  fun (left1, v, w5, w6) =>
    bif (decide (v < (weights.length : Int))) then
      req ((0 ≤ v ∧ v < (weights.length : Int))) <|
      req (sum ≠ 0 ∧ (0 ≤ v ∧ v < (w5.length : Int))) <|
      bindV (setI w5 v (IntKind.i64.wrap (Int.tdiv (IntKind.i64.wrap (total * (ix weights v))) sum))) fun w9 =>
      req ((0 ≤ v ∧ v < (w6.length : Int))) <|
      req ((0 ≤ v ∧ v < (w9.length : Int))) <|
      some (.inl ((IntKind.i64.wrap (left1 - (ix w9 v))), (IntKind.i64.wrap (v + (1 : Int))), w9, (setI w6 v v)))
    else
      some (.inr (left1, w5, w6))
noncomputable def ratio_Apportion_j5 (total : Int) (weights : List Int) (sum : Int) : Option ((List Int) × Int) :=
  bif (sum == (0 : Int)) then
    some (([] : List Int), (10 : Int))
  else
    req ((0 ≤ (weights.length : Int) ∧ (weights.length : Int) * 8 ≤ 140737488355328)) <|
    req ((0 ≤ (weights.length : Int) ∧ (weights.length : Int) * 8 ≤ 140737488355328)) <|
    (iter (ratio_Apportion_l4 total weights sum) (total, (0 : Int), (rep (weights.length : Int) (0 : Int)), (rep (weights.length : Int) (0 : Int)))).bind fun (left2, w7, w8) =>
    ratio_Apportion_j3 total weights sum left2 w7 w8
noncomputable def ratio_Apportion_l6 (weights : List Int) : (Int × Int) → Option ((Int × Int) ⊕ (Int ⊕ ((List Int) × Int))) :=
  fun (v1, sum1) =>
    bif (decide (v1 < (weights.length : Int))) then
      req ((0 ≤ v1 ∧ v1 < (weights.length : Int))) <|
      bif ((decide ((ix weights v1) < (0 : Int))) || (decide ((1073741824 : Int) < (ix weights v1)))) then
        some (.inr (.inr (([] : List Int), (2 : Int))))
      else
        some (.inl ((IntKind.i64.wrap (v1 + (1 : Int))), (IntKind.i64.wrap (sum1 + (ix weights v1)))))
    else
      some (.inr (.inl sum1))
noncomputable def ratio_Apportion (total : Int) (weights : List Int) : Option ((List Int) × Int) :=
  bif (decide ((100 : Int) < (weights.length : Int))) then
    some (([] : List Int), (3 : Int))
  else
    bif ((decide (total < (0 : Int))) || (decide ((1073741824 : Int) < total))) then
      some (([] : List Int), (2 : Int))
    else
      (iter (ratio_Apportion_l6 weights) ((0 : Int), (0 : Int))).bind fun x_ =>
      match x_ with
      | .inl sum2 => ratio_Apportion_j5 total weights sum2
      | .inr t_ => some t_
/-- awardingbody awardingbodyref01.Apportion -/
noncomputable def ref01_Apportion_j1 (w2 : List Int) : Option ((List Int) × Int) :=
  some (w2, (0 : Int))
noncomputable def ref01_Apportion_j2 (left1 : Int) (w3 : List Int) (w4 : List Int) (best : Int) : Option ((Int × (List Int) × (List Int)) ⊕ (List Int)) :=
  req ((0 ≤ best ∧ best < (w3.length : Int))) <|
  req ((0 ≤ best ∧ best < (w4.length : Int))) <|
  some (.inl ((IntKind.i64.wrap (left1 - (1 : Int))), (setI w3 best (IntKind.i64.wrap ((ix w3 best) + (1 : Int)))), (setI w4 best (-1 : Int))))
noncomputable def ref01_Apportion_j3 (i : Int) (best3 : Int) : Option ((Int × Int) ⊕ Int) :=
  some (.inl (best3, (IntKind.i64.wrap (i + (1 : Int)))))
noncomputable def ref01_Apportion_l4 (w4 : List Int) : (Int × Int) → Option ((Int × Int) ⊕ Int) :=
  fun (best1, i) =>
    bif (decide (i < (w4.length : Int))) then
      req ((0 ≤ i ∧ i < (w4.length : Int)) ∧ (0 ≤ best1 ∧ best1 < (w4.length : Int))) <|
      bif (decide ((ix w4 best1) < (ix w4 i))) then
        ref01_Apportion_j3 i i
      else
        ref01_Apportion_j3 i best1
    else
      some (.inr best1)
noncomputable def ref01_Apportion_l5  : (Int × (List Int) × (List Int)) → Option ((Int × (List Int) × (List Int)) ⊕ (List Int)) :=
  fun (left1, w3, w4) =>
    bif (decide ((0 : Int) < left1)) then
      (iter (ref01_Apportion_l4 w4) ((0 : Int), (1 : Int))).bind fun best2 =>
      ref01_Apportion_j2 left1 w3 w4 best2
    else
      some (.inr w3)
noncomputable def ref01_Apportion_j6 (left : Int) (w : List Int) (w1 : List Int) : Option ((List Int) × Int) :=
  (iter (ref01_Apportion_l5) (left, w, w1)).bind fun w5 =>
  ref01_Apportion_j1 w5
noncomputable def ref01_Apportion_l7 (amount : Int) (weights : List Int) (sum : Int) : (Int × Int × (List Int) × (List Int)) → Option ((Int × Int × (List Int) × (List Int)) ⊕ (Int × (List Int) × (List Int))) :=
  fun (left2, i1, w6, w7) =>
    bif (decide (i1 < (weights.length : Int))) then
      req ((0 ≤ i1 ∧ i1 < (weights.length : Int)) ∧ sum ≠ 0 ∧ (0 ≤ i1 ∧ i1 < (w6.length : Int))) <|
      bindV (setI w6 i1 (IntKind.i64.wrap (Int.tdiv (IntKind.i64.wrap (amount * (ix weights i1))) sum))) fun w10 =>
      req ((0 ≤ i1 ∧ i1 < (weights.length : Int)) ∧ sum ≠ 0 ∧ (0 ≤ i1 ∧ i1 < (w7.length : Int))) <|
      bindV (setI w7 i1 (Int.tmod (IntKind.i64.wrap (amount * (ix weights i1))) sum)) fun w11 =>
      req ((0 ≤ i1 ∧ i1 < (w10.length : Int))) <|
      some (.inl ((IntKind.i64.wrap (left2 - (ix w10 i1))), (IntKind.i64.wrap (i1 + (1 : Int))), w10, w11))
    else
      some (.inr (left2, w6, w7))
noncomputable def ref01_Apportion_j8 (amount : Int) (weights : List Int) (sum : Int) : Option ((List Int) × Int) :=
  bif (sum == (0 : Int)) then
    some (([] : List Int), (10 : Int))
  else
    req ((0 ≤ (weights.length : Int) ∧ (weights.length : Int) * 8 ≤ 140737488355328)) <|
    req ((0 ≤ (weights.length : Int) ∧ (weights.length : Int) * 8 ≤ 140737488355328)) <|
    (iter (ref01_Apportion_l7 amount weights sum) (amount, (0 : Int), (rep (weights.length : Int) (0 : Int)), (rep (weights.length : Int) (0 : Int)))).bind fun (left3, w8, w9) =>
    ref01_Apportion_j6 left3 w8 w9
noncomputable def ref01_Apportion_l9 (weights : List Int) : (Int × Int) → Option ((Int × Int) ⊕ (Int ⊕ ((List Int) × Int))) :=
  fun (sum1, i2) =>
    bif (decide (i2 < (weights.length : Int))) then
      req ((0 ≤ i2 ∧ i2 < (weights.length : Int)) ∧ ((!(decide ((ix weights i2) < (0 : Int)))) = true → 0 ≤ i2 ∧ i2 < (weights.length : Int))) <|
      bif ((decide ((ix weights i2) < (0 : Int))) || (decide ((1073741824 : Int) < (ix weights i2)))) then
        some (.inr (.inr (([] : List Int), (2 : Int))))
      else
        req ((0 ≤ i2 ∧ i2 < (weights.length : Int))) <|
        some (.inl ((IntKind.i64.wrap (sum1 + (ix weights i2))), (IntKind.i64.wrap (i2 + (1 : Int)))))
    else
      some (.inr (.inl sum1))
noncomputable def ref01_Apportion (amount : Int) (weights : List Int) : Option ((List Int) × Int) :=
  bif (decide ((100 : Int) < (weights.length : Int))) then
    some (([] : List Int), (3 : Int))
  else
    bif ((decide (amount < (0 : Int))) || (decide ((1073741824 : Int) < amount))) then
      some (([] : List Int), (2 : Int))
    else
      (iter (ref01_Apportion_l9 weights) ((0 : Int), (0 : Int))).bind fun x_ =>
      match x_ with
      | .inl sum2 => ref01_Apportion_j8 amount weights sum2
      | .inr t_ => some t_
/-- awardingbody awardingbodylaw01.same -/
noncomputable def law01_same_j1  : Option Bool :=
  some true
noncomputable def law01_same_l2 (a : List Int) (b : List Int) : Int → Option (Int ⊕ (Unit ⊕ Bool)) :=
  fun i =>
    bif (decide (i < (a.length : Int))) then
      req ((0 ≤ i ∧ i < (a.length : Int)) ∧ (0 ≤ i ∧ i < (b.length : Int))) <|
      bif ((ix a i) != (ix b i)) then
        some (.inr (.inr false))
      else
        some (.inl (IntKind.i64.wrap (i + (1 : Int))))
    else
      some (.inr (.inl ()))
noncomputable def law01_same (a : List Int) (b : List Int) : Option Bool :=
  bif ((a.length : Int) != (b.length : Int)) then
    some false
  else
    (iter (law01_same_l2 a b) (0 : Int)).bind fun x_ =>
    match x_ with
    | .inl () => law01_same_j1
    | .inr t_ => some t_
/-- awardingbody ratio.gcd -/
noncomputable def ratio_gcd_j1 (a1 : Int) : Option Int :=
  some a1
noncomputable def ratio_gcd_l2  : (Int × Int) → Option ((Int × Int) ⊕ Int) :=
  fun (a2, b1) =>
    bif (b1 != (0 : Int)) then
      req (b1 ≠ 0) <|
      some (.inl (b1, (Int.tmod a2 b1)))
    else
      some (.inr a2)
noncomputable def ratio_gcd (a : Int) (b : Int) : Option Int :=
  (iter (ratio_gcd_l2) (a, b)).bind fun a3 =>
  ratio_gcd_j1 a3
/-- math bits.Len64 -/
noncomputable def bits_Len64_j1 (x3 : Int) (n2 : Int) : Option Int :=
  req ((0 ≤ (IntKind.u8.wrap x3) ∧ (IntKind.u8.wrap x3) < (((List.append (List.append [0, 1, 2, 2, 3, 3, 3, 3, 4, 4, 4, 4, 4, 4, 4, 4, 5, 5, 5, 5, 5, 5, 5, 5, 5, 5, 5, 5, 5, 5, 5, 5, 6, 6, 6, 6, 6, 6, 6, 6, 6, 6, 6, 6, 6, 6, 6, 6, 6, 6, 6, 6, 6, 6, 6, 6, 6, 6, 6, 6, 6, 6, 6, 6] [7, 7, 7, 7, 7, 7, 7, 7, 7, 7, 7, 7, 7, 7, 7, 7, 7, 7, 7, 7, 7, 7, 7, 7, 7, 7, 7, 7, 7, 7, 7, 7, 7, 7, 7, 7, 7, 7, 7, 7, 7, 7, 7, 7, 7, 7, 7, 7, 7, 7, 7, 7, 7, 7, 7, 7, 7, 7, 7, 7, 7, 7, 7, 7]) (List.append [8, 8, 8, 8, 8, 8, 8, 8, 8, 8, 8, 8, 8, 8, 8, 8, 8, 8, 8, 8, 8, 8, 8, 8, 8, 8, 8, 8, 8, 8, 8, 8, 8, 8, 8, 8, 8, 8, 8, 8, 8, 8, 8, 8, 8, 8, 8, 8, 8, 8, 8, 8, 8, 8, 8, 8, 8, 8, 8, 8, 8, 8, 8, 8] [8, 8, 8, 8, 8, 8, 8, 8, 8, 8, 8, 8, 8, 8, 8, 8, 8, 8, 8, 8, 8, 8, 8, 8, 8, 8, 8, 8, 8, 8, 8, 8, 8, 8, 8, 8, 8, 8, 8, 8, 8, 8, 8, 8, 8, 8, 8, 8, 8, 8, 8, 8, 8, 8, 8, 8, 8, 8, 8, 8, 8, 8, 8, 8])) : Str).length : Int))) <|
  bindV (IntKind.i64.wrap (n2 + (IntKind.i64.wrap (sx ((List.append (List.append [0, 1, 2, 2, 3, 3, 3, 3, 4, 4, 4, 4, 4, 4, 4, 4, 5, 5, 5, 5, 5, 5, 5, 5, 5, 5, 5, 5, 5, 5, 5, 5, 6, 6, 6, 6, 6, 6, 6, 6, 6, 6, 6, 6, 6, 6, 6, 6, 6, 6, 6, 6, 6, 6, 6, 6, 6, 6, 6, 6, 6, 6, 6, 6] [7, 7, 7, 7, 7, 7, 7, 7, 7, 7, 7, 7, 7, 7, 7, 7, 7, 7, 7, 7, 7, 7, 7, 7, 7, 7, 7, 7, 7, 7, 7, 7, 7, 7, 7, 7, 7, 7, 7, 7, 7, 7, 7, 7, 7, 7, 7, 7, 7, 7, 7, 7, 7, 7, 7, 7, 7, 7, 7, 7, 7, 7, 7, 7]) (List.append [8, 8, 8, 8, 8, 8, 8, 8, 8, 8, 8, 8, 8, 8, 8, 8, 8, 8, 8, 8, 8, 8, 8, 8, 8, 8, 8, 8, 8, 8, 8, 8, 8, 8, 8, 8, 8, 8, 8, 8, 8, 8, 8, 8, 8, 8, 8, 8, 8, 8, 8, 8, 8, 8, 8, 8, 8, 8, 8, 8, 8, 8, 8, 8] [8, 8, 8, 8, 8, 8, 8, 8, 8, 8, 8, 8, 8, 8, 8, 8, 8, 8, 8, 8, 8, 8, 8, 8, 8, 8, 8, 8, 8, 8, 8, 8, 8, 8, 8, 8, 8, 8, 8, 8, 8, 8, 8, 8, 8, 8, 8, 8, 8, 8, 8, 8, 8, 8, 8, 8, 8, 8, 8, 8, 8, 8, 8, 8])) : Str) (IntKind.u8.wrap x3))))) fun n3 =>
  some n3
noncomputable def bits_Len64_j2 (x2 : Int) (n1 : Int) : Option Int :=
  bif (decide ((256 : Int) ≤ x2)) then
    bits_Len64_j1 (bShr .u64 x2 (8 : Int)) (IntKind.i64.wrap (n1 + (8 : Int)))
  else
    bits_Len64_j1 x2 n1
noncomputable def bits_Len64_j3 (x1 : Int) (n : Int) : Option Int :=
  bif (decide ((65536 : Int) ≤ x1)) then
    bits_Len64_j2 (bShr .u64 x1 (16 : Int)) (IntKind.i64.wrap (n + (16 : Int)))
  else
    bits_Len64_j2 x1 n
noncomputable def bits_Len64 (x : Int) : Option Int :=
  bif (decide ((4294967296 : Int) ≤ x)) then
    bits_Len64_j3 (bShr .u64 x (32 : Int)) (32 : Int)
  else
    bits_Len64_j3 x (0 : Int)
/-- math bits.LeadingZeros64 -/
noncomputable def bits_LeadingZeros64 (x : Int) : Option Int :=
  (bits_Len64 x).bind fun y =>
  some (IntKind.i64.wrap ((64 : Int) - y))
/-- math bits.Div64 -/
noncomputable def bits_Div64_j1 (lo : Int) (y : Int) (y1 : Int) (q11 : Int) (un21 : Int) (q01 : Int) : Option (Int × Int) :=
  req (0 ≤ (IntKind.u64.wrap y1)) <|
  bindV (IntKind.u64.wrap ((IntKind.u64.wrap (q11 * (4294967296 : Int))) + q01)) fun quo =>
  bindV (bShr .u64 (IntKind.u64.wrap ((IntKind.u64.wrap ((IntKind.u64.wrap (un21 * (4294967296 : Int))) + (bAnd .u64 (bShl .u64 lo (IntKind.u64.wrap y1)) (4294967295 : Int)))) - (IntKind.u64.wrap (q01 * (bShl .u64 y (IntKind.u64.wrap y1)))))) (IntKind.u64.wrap y1)) fun rem =>
  some (quo, rem)
noncomputable def bits_Div64_l2 (lo : Int) (y : Int) (y1 : Int) : (Int × Int) → Option ((Int × Int) ⊕ Int) :=
  fun (rhat2, q02) =>
    bif ((decide ((4294967296 : Int) ≤ q02)) || (decide ((IntKind.u64.wrap ((IntKind.u64.wrap ((4294967296 : Int) * rhat2)) + (bAnd .u64 (bShl .u64 lo (IntKind.u64.wrap y1)) (4294967295 : Int)))) < (IntKind.u64.wrap (q02 * (bAnd .u64 (bShl .u64 y (IntKind.u64.wrap y1)) (4294967295 : Int))))))) then
      bindV (IntKind.u64.wrap (rhat2 + (bShr .u64 (bShl .u64 y (IntKind.u64.wrap y1)) (32 : Int)))) fun rhat3 =>
      bif (decide ((4294967296 : Int) ≤ rhat3)) then
        some (.inr (IntKind.u64.wrap (q02 - (1 : Int))))
      else
        some (.inl (rhat3, (IntKind.u64.wrap (q02 - (1 : Int)))))
    else
      some (.inr q02)
noncomputable def bits_Div64_j3 (lo : Int) (y : Int) (y1 : Int) (un32 : Int) (q11 : Int) : Option (Int × Int) :=
  bindV (IntKind.u64.wrap ((IntKind.u64.wrap ((IntKind.u64.wrap (un32 * (4294967296 : Int))) + (bShr .u64 (bShl .u64 lo (IntKind.u64.wrap y1)) (32 : Int)))) - (IntKind.u64.wrap (q11 * (bShl .u64 y (IntKind.u64.wrap y1)))))) fun un21 =>
  req ((bShr .u64 (bShl .u64 y (IntKind.u64.wrap y1)) (32 : Int)) ≠ 0) <|
  bindV (IntKind.u64.wrap (Int.tdiv un21 (bShr .u64 (bShl .u64 y (IntKind.u64.wrap y1)) (32 : Int)))) fun q0 =>
  bindV (IntKind.u64.wrap (un21 - (IntKind.u64.wrap (q0 * (bShr .u64 (bShl .u64 y (IntKind.u64.wrap y1)) (32 : Int)))))) fun rhat1 =>
  (iter (bits_Div64_l2 lo y y1) (rhat1, q0)).bind fun q03 =>
  bits_Div64_j1 lo y y1 q11 un21 q03
noncomputable def bits_Div64_l4 (lo : Int) (y : Int) (y1 : Int) : (Int × Int) → Option ((Int × Int) ⊕ Int) :=
  fun (q12, rhat4) =>
    bif ((decide ((4294967296 : Int) ≤ q12)) || (decide ((IntKind.u64.wrap ((IntKind.u64.wrap ((4294967296 : Int) * rhat4)) + (bShr .u64 (bShl .u64 lo (IntKind.u64.wrap y1)) (32 : Int)))) < (IntKind.u64.wrap (q12 * (bAnd .u64 (bShl .u64 y (IntKind.u64.wrap y1)) (4294967295 : Int))))))) then
      bindV (IntKind.u64.wrap (rhat4 + (bShr .u64 (bShl .u64 y (IntKind.u64.wrap y1)) (32 : Int)))) fun rhat5 =>
      bif (decide ((4294967296 : Int) ≤ rhat5)) then
        some (.inr (IntKind.u64.wrap (q12 - (1 : Int))))
      else
        some (.inl ((IntKind.u64.wrap (q12 - (1 : Int))), rhat5))
    else
      some (.inr q12)
noncomputable def bits_Div64_j5 (hi : Int) (lo : Int) (y : Int) : Option (Int × Int) :=
  bif (hi == (0 : Int)) then
    req (y ≠ 0) <|
    some ((IntKind.u64.wrap (Int.tdiv lo y)), (Int.tmod lo y))
  else
    (bits_LeadingZeros64 y).bind fun y1 =>
    req (0 ≤ (IntKind.u64.wrap y1)) <|
    req (0 ≤ (IntKind.u64.wrap y1) ∧ 0 ≤ (IntKind.u64.wrap ((64 : Int) - (IntKind.u64.wrap y1)))) <|
    bindV (bOr .u64 (bShl .u64 hi (IntKind.u64.wrap y1)) (bShr .u64 lo (IntKind.u64.wrap ((64 : Int) - (IntKind.u64.wrap y1))))) fun un32 =>
    req (0 ≤ (IntKind.u64.wrap y1)) <|
    req ((bShr .u64 (bShl .u64 y (IntKind.u64.wrap y1)) (32 : Int)) ≠ 0) <|
    bindV (IntKind.u64.wrap (Int.tdiv un32 (bShr .u64 (bShl .u64 y (IntKind.u64.wrap y1)) (32 : Int)))) fun q1 =>
    bindV (IntKind.u64.wrap (un32 - (IntKind.u64.wrap (q1 * (bShr .u64 (bShl .u64 y (IntKind.u64.wrap y1)) (32 : Int)))))) fun rhat =>
    (iter (bits_Div64_l4 lo y y1) (q1, rhat)).bind fun q13 =>
    bits_Div64_j3 lo y y1 un32 q13
noncomputable def bits_Div64_j6 (hi : Int) (lo : Int) (y : Int) : Option (Int × Int) :=
  bif (decide (y ≤ hi)) then
    none
  else
    bits_Div64_j5 hi lo y
noncomputable def bits_Div64 (hi : Int) (lo : Int) (y : Int) : Option (Int × Int) :=
  bif (y == (0 : Int)) then
    none
  else
    bits_Div64_j6 hi lo y
/-- math bits.Rem64 -/
noncomputable def bits_Rem64 (hi : Int) (lo : Int) (y : Int) : Option Int :=
  req (y ≠ 0) <|
  (bits_Div64 (Int.tmod hi y) lo y).bind fun (y1, y2) =>
  some y2
/-- (awardingbody ratio.wide).mod -/
noncomputable def ratio_wide_mod (a : ratio_wide) (d : Int) : Option Int :=
  (bits_Rem64 a.hi a.lo d).bind fun y =>
  some y
/-- awardingbody ratio.fitted -/
noncomputable def ratio_fitted_j1 (den : ratio_wide) (n : Int) : Option (api_Ratio × Int) :=
  some ((api_Ratio.mk n (IntKind.i64.wrap den.lo)), (0 : Int))
noncomputable def ratio_fitted (neg : Bool) (num : ratio_wide) (den : ratio_wide) : Option (api_Ratio × Int) :=
  bif ((((num.hi != (0 : Int)) || (den.hi != (0 : Int))) || (decide ((1152921504606846976 : Int) < num.lo))) || (decide ((1152921504606846976 : Int) < den.lo))) then
    some ((api_Ratio.mk (0 : Int) (0 : Int)), (6 : Int))
  else
    bif neg then
      ratio_fitted_j1 den (IntKind.i64.wrap (0 - (IntKind.i64.wrap num.lo)))
    else
      ratio_fitted_j1 den (IntKind.i64.wrap num.lo)
/-- (awardingbody ratio.wide).over -/
noncomputable def ratio_wide_over (a : ratio_wide) (d : Int) : Option ratio_wide :=
  req (d ≠ 0) <|
  (bits_Div64 (Int.tmod a.hi d) a.lo d).bind fun (y, y1) =>
  some (ratio_wide.mk (IntKind.u64.wrap (Int.tdiv a.hi d)) y)
/-- awardingbody ratio.reduced -/
noncomputable def ratio_reduced (num : ratio_signed) (den : Int) : Option (api_Ratio × Int) :=
  (ratio_wide_mod num.abs den).bind fun y =>
  (ratio_gcd y den).bind fun y1 =>
  (ratio_wide_over num.abs y1).bind fun y2 =>
  req (y1 ≠ 0) <|
  (ratio_fitted num.neg y2 (ratio_wide.mk (0 : Int) (IntKind.u64.wrap (Int.tdiv den y1)))).bind fun (y3, y4) =>
  some (y3, y4)
/-- awardingbody ratio.magnitude -/
noncomputable def ratio_magnitude (n : Int) : Option Int :=
  bif (decide (n < (0 : Int))) then
    some (IntKind.u64.wrap (0 - (IntKind.u64.wrap n)))
  else
    some (IntKind.u64.wrap n)
/-- awardingbody ratio.New -/
noncomputable def ratio_New (num : Int) (den : Int) : Option (api_Ratio × Int) :=
  bif (den == (0 : Int)) then
    some ((api_Ratio.mk (0 : Int) (0 : Int)), (2 : Int))
  else
    (ratio_magnitude num).bind fun y =>
    (ratio_magnitude den).bind fun y1 =>
    (ratio_reduced (ratio_signed.mk (!((decide (num < (0 : Int))) == (decide (den < (0 : Int))))) (ratio_wide.mk (0 : Int) y)) y1).bind fun (y2, y3) =>
    some (y2, y3)
/-- awardingbody awardingbodylaw01.awake -/
noncomputable def law01_awake  : Option Bool :=
  (ratio_New (6 : Int) (-4 : Int)).bind fun (y, y1) =>
  (ratio_Apportion (3 : Int) ([(5 : Int), (3 : Int), (0 : Int)])).bind fun (y2, y3) =>
  req ((((((y1 == (0 : Int)) && ((y.Num == (-3 : Int)) && (y.Den == (2 : Int)))) && (y3 == (0 : Int))) && ((y2.length : Int) == (3 : Int))) = true → 0 ≤ (0 : Int) ∧ (0 : Int) < (y2.length : Int)) ∧ ((((((y1 == (0 : Int)) && ((y.Num == (-3 : Int)) && (y.Den == (2 : Int)))) && (y3 == (0 : Int))) && ((y2.length : Int) == (3 : Int))) && ((ix y2 (0 : Int)) == (2 : Int))) = true → 0 ≤ (1 : Int) ∧ (1 : Int) < (y2.length : Int)) ∧ (((((((y1 == (0 : Int)) && ((y.Num == (-3 : Int)) && (y.Den == (2 : Int)))) && (y3 == (0 : Int))) && ((y2.length : Int) == (3 : Int))) && ((ix y2 (0 : Int)) == (2 : Int))) && ((ix y2 (1 : Int)) == (1 : Int))) = true → 0 ≤ (2 : Int) ∧ (2 : Int) < (y2.length : Int))) <|
  some (((((((y1 == (0 : Int)) && ((y.Num == (-3 : Int)) && (y.Den == (2 : Int)))) && (y3 == (0 : Int))) && ((y2.length : Int) == (3 : Int))) && ((ix y2 (0 : Int)) == (2 : Int))) && ((ix y2 (1 : Int)) == (1 : Int))) && ((ix y2 (2 : Int)) == (0 : Int)))
/-- awardingbody awardingbodylaw01.RatioApportions -/
noncomputable def law01_RatioApportions (total : Int) (weights : List Int) : Option Bool :=
  bif (decide ((120 : Int) < (weights.length : Int))) then
    some true
  else
    (ratio_Apportion total weights).bind fun (y, y1) =>
    (ref01_Apportion total weights).bind fun (y2, y3) =>
    (law01_same y y2).bind fun y4 =>
    req (((y4 && (y1 == y3)) = true → (law01_awake).isSome = true)) <|
    some ((y4 && (y1 == y3)) && ((law01_awake).getD default))
end Go.LS
