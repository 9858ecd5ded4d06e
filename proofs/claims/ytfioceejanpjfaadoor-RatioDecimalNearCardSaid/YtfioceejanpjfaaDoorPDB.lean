/-
  Decimal numerals: the digits, the reference's Digits, what Parse reads; RatioBack.
  Conditions: none but those of the statement.
-/
import Derived.Test.YtfioceejanpjfaaDoorPBD
namespace Go.LS
set_option linter.all false
set_option linter.unusedSimpArgs false
set_option linter.unusedVariables false
set_option maxRecDepth 20000

theorem dsb {α β : Type} (x : α) (f : α → Option β) : (some x).bind f = f x := rfl
abbrev dd (n : Nat) : Str := Lib.decDigits n
def ch (d : Nat) : UInt8 := UInt8.ofNat (48 + d)
theorem ch_nat (d : Nat) (h : d < 10) : (ch d).toNat = 48 + d := by unfold ch; rw [UInt8.toNat_ofNat']; omega
theorem ch_isD (d : Nat) (h : d < 10) : isD (ch d) = true := by unfold isD; rw [ch_nat d h]; simp; omega
theorem dd_small {n : Nat} (h : n < 10) : dd n = [ch n] := by unfold dd; rw [Lib.decDigits, dif_pos h]; rfl
theorem dd_big {n : Nat} (h : ¬ n < 10) : dd n = dd (n / 10) ++ [ch (n % 10)] := by
  show Lib.decDigits n = _
  rw [Lib.decDigits, dif_neg h]; rfl
theorem dd_pos (n : Nat) : 1 ≤ (dd n).length := by
  by_cases h : n < 10
  · rw [dd_small h]; simp
  · rw [dd_big h]; simp
theorem dd_all (n : Nat) : ((dd n).all isD) = true := by
  induction n using Nat.strongRecOn with
  | _ n ih =>
    by_cases h : n < 10
    · rw [dd_small h]; simp [ch_isD n h]
    · rw [dd_big h, List.all_append, ih (n / 10) (by omega)]
      simp [ch_isD (n % 10) (by omega)]
theorem valF_snoc : ∀ (l : List UInt8) (c : UInt8) (n : Nat), valF (l ++ [c]) n = valF l n * 10 + (c.toNat - 48)
  | [], c, n => rfl
  | a :: l, c, n => by simp only [List.cons_append, valF]; exact valF_snoc l c _
theorem dd_val (n : Nat) : valF (dd n) 0 = n := by
  induction n using Nat.strongRecOn with
  | _ n ih =>
    by_cases h : n < 10
    · rw [dd_small h]; simp only [valF]; rw [ch_nat n h]; omega
    · rw [dd_big h, valF_snoc, ih (n / 10) (by omega), ch_nat _ (by omega)]; omega
theorem dd_len (k : Nat) : ∀ n : Nat, 1 ≤ k → n < 10 ^ k → (dd n).length ≤ k := by
  induction k with
  | zero => intro n h; omega
  | succ k ih =>
    intro n _ hn
    by_cases h : n < 10
    · rw [dd_small h]; simp
    · rw [dd_big h, List.length_append]
      have hk : 1 ≤ k := by
        rcases Nat.eq_zero_or_pos k with g | g
        · subst g; simp at hn; omega
        · exact g
      have := ih (n / 10) hk (by rw [Nat.pow_succ] at hn; omega)
      simp; omega
theorem dd_numOf (n most : Nat) (h1 : 1 ≤ most) (hn : n < 10 ^ most) : numOf (dd n) most = ((n : Int), true) := by
  unfold numOf
  rw [if_pos ⟨⟨dd_pos n, dd_len most n h1 hn⟩, dd_all n⟩, dd_val]
theorem isD_notC (c : UInt8) (h : isD c = true) : isC c = false := by
  unfold isD at h
  simp at h
  unfold isC
  rw [Bool.or_eq_false_iff]
  constructor
  · rw [beq_eq_false_iff_ne]; rintro rfl; revert h; decide
  · rw [beq_eq_false_iff_ne]; rintro rfl; revert h; decide
theorem all_notC {l : Str} (h : (l.all isD) = true) : ∀ x ∈ l, isC x = false := fun x hx => isD_notC x (List.all_eq_true.1 h x hx)
theorem cut_none {l : Str} (h : (l.all isD) = true) : l.findIdx isC = l.length := List.findIdx_eq_length.2 (all_notC h)
theorem cut_at {l r : Str} {c : UInt8} (h : (l.all isD) = true) (hc : isC c = true) : (l ++ c :: r).findIdx isC = l.length := by
  rw [List.findIdx_append, if_neg (by rw [cut_none h]; omega)]
  simp [List.findIdx_cons, hc]
theorem drop_cut (l r : Str) (c : UInt8) : (l ++ c :: r).drop (l.length + 1) = r := by
  rw [show l ++ c :: r = (l ++ [c]) ++ r by simp, show l.length + 1 = (l ++ [c]).length by simp, List.drop_left]
/-! ### what Parse reads -/
theorem parse_one (neg : Bool) (l : Str) (n : Nat) (hl : (l.all isD) = true) (h1 : 1 ≤ l.length) (h2 : l.length ≤ 19) (hv : valF l 0 = n) : ratio_Parse_j3 l neg = some (redOf neg n 1) := by
  unfold ratio_Parse_j3
  have hcut : iter (ratio_Parse_l2 l) (0 : Int) = _ := cut_loop l (by omega) l.length 0 (by omega) (by omega) (fun j hj h => by omega)
  rw [hcut, dsb, cut_none hl]
  unfold ratio_Parse_j1
  rw [req_pos (by omega), Int.toNat_natCast, List.take_length, show ratio_digitsOf l (19 : Int) = some (numOf l 19) from digitsOf_eq l 19 (by omega), dsb]
  have hn : numOf l 19 = ((n : Int), true) := by unfold numOf; rw [if_pos ⟨⟨h1, h2⟩, hl⟩, hv]
  have hb := (numOf_val (s := l) (most := 19) (by omega) (by rw [hn]))
  obtain ⟨m, e1, _, e3, _⟩ := hb
  rw [hn] at e1 ⊢
  have e1 : (n : Int) = m := e1
  dsimp only
  rw [Bool.not_true, cond_false, show ((l.length : Int) == (l.length : Int)) = true by simp, cond_true]
  rw [show ratio_reduced ⟨neg, ⟨0, (n : Int)⟩⟩ 1 = some (redOf neg n 1) from reduced0 neg n 1 (by omega) (by omega) (by omega), dsb]
theorem parse_frac (neg : Bool) (l r : Str) (n d : Nat) (hl : (l.all isD) = true) (h1 : 1 ≤ l.length) (h2 : l.length ≤ 19) (hv : valF l 0 = n)
    (gl : (r.all isD) = true) (g1 : 1 ≤ r.length) (g2 : r.length ≤ 19) (gv : valF r 0 = d) (hd : d ≠ 0) : ratio_Parse_j3 (l ++ 47 :: r) neg = some (redOf neg n d) := by
  unfold ratio_Parse_j3
  have hcut : iter (ratio_Parse_l2 (l ++ 47 :: r)) (0 : Int) = _ := cut_loop (l ++ 47 :: r) (by simp; omega) _ 0 rfl (by omega) (fun j hj h => by omega)
  rw [hcut, dsb, cut_at hl (by decide)]
  unfold ratio_Parse_j1
  have hlen : ((l ++ 47 :: r).length : Int) = l.length + 1 + r.length := by simp; omega
  have hn : numOf l 19 = ((n : Int), true) := by unfold numOf; rw [if_pos ⟨⟨h1, h2⟩, hl⟩, hv]
  have gn : numOf r 19 = ((d : Int), true) := by unfold numOf; rw [if_pos ⟨⟨g1, g2⟩, gl⟩, gv]
  obtain ⟨m, e1, _, e3, _⟩ := numOf_val (s := l) (most := 19) (by omega) (by rw [hn])
  obtain ⟨m2, e5, _, e7, _⟩ := numOf_val (s := r) (most := 19) (by omega) (by rw [gn])
  rw [hn] at e1
  rw [gn] at e5
  have e1 : (n : Int) = m := e1
  have e5 : (d : Int) = m2 := e5
  rw [req_pos (by omega), Int.toNat_natCast, List.take_left, show ratio_digitsOf l (19 : Int) = some (numOf l 19) from digitsOf_eq l 19 (by omega), dsb, hn]
  dsimp only
  rw [Bool.not_true, cond_false, show ((l.length : Int) == ((l ++ 47 :: r).length : Int)) = false by simp; omega, cond_false, i64_add1 l.length (by omega), req_pos (by omega), req_pos (by omega)]
  have hs : sx (l ++ 47 :: r) (l.length : Int) = 47 := by rw [sx_nat _ _ (by simp)]; simp
  have hdr : (l ++ 47 :: r).drop (l.length + 1) = r := drop_cut l r 47
  rw [hs, show ((47 : Int) == 47) = true by decide, cond_true, Int.toNat_natCast, hdr, show ratio_digitsOf r (19 : Int) = some (numOf r 19) from digitsOf_eq r 19 (by omega), dsb, gn]
  dsimp only
  rw [Bool.not_true, cond_false, show ((d : Int) == 0) = false by simpa using hd, cond_false, reduced0 neg n d (by omega) (by omega) (by omega), dsb]
theorem parse_point (neg : Bool) (l r : Str) (n v : Nat) (hl : (l.all isD) = true) (h1 : 1 ≤ l.length) (h2 : l.length ≤ 19) (hv : valF l 0 = n)
    (gl : (r.all isD) = true) (g1 : 1 ≤ r.length) (g2 : r.length ≤ 9) (gv : valF r 0 = v) : ratio_Parse_j3 (l ++ 46 :: r) neg = some (redOf neg (n * 10 ^ r.length + v) (10 ^ r.length)) := by
  unfold ratio_Parse_j3
  have hcut : iter (ratio_Parse_l2 (l ++ 46 :: r)) (0 : Int) = _ := cut_loop (l ++ 46 :: r) (by simp; omega) _ 0 rfl (by omega) (fun j hj h => by omega)
  rw [hcut, dsb, cut_at hl (by decide)]
  unfold ratio_Parse_j1
  have hlen : ((l ++ 46 :: r).length : Int) = l.length + 1 + r.length := by simp; omega
  have hn : numOf l 19 = ((n : Int), true) := by unfold numOf; rw [if_pos ⟨⟨h1, h2⟩, hl⟩, hv]
  have gn : numOf r 9 = ((v : Int), true) := by unfold numOf; rw [if_pos ⟨⟨g1, g2⟩, gl⟩, gv]
  obtain ⟨m, e1, _, e3, _⟩ := numOf_val (s := l) (most := 19) (by omega) (by rw [hn])
  obtain ⟨m2, e5, _, e7, _⟩ := numOf_val (s := r) (most := 9) (by omega) (by rw [gn])
  rw [hn] at e1
  rw [gn] at e5
  have e1 : (n : Int) = m := e1
  have e5 : (v : Int) = m2 := e5
  rw [req_pos (by omega), Int.toNat_natCast, List.take_left, show ratio_digitsOf l (19 : Int) = some (numOf l 19) from digitsOf_eq l 19 (by omega), dsb, hn]
  dsimp only
  rw [Bool.not_true, cond_false, show ((l.length : Int) == ((l ++ 46 :: r).length : Int)) = false by simp; omega, cond_false, i64_add1 l.length (by omega), req_pos (by omega), req_pos (by omega)]
  have hs : sx (l ++ 46 :: r) (l.length : Int) = 46 := by rw [sx_nat _ _ (by simp)]; simp
  have hdr : (l ++ 46 :: r).drop (l.length + 1) = r := drop_cut l r 46
  have hp := pow10_le r.length (by omega)
  have hp0 : 0 < 10 ^ r.length := Nat.pow_pos (by decide)
  rw [hs, show ((46 : Int) == 47) = false by decide, cond_false, Int.toNat_natCast, hdr, show ratio_digitsOf r (9 : Int) = some (numOf r 9) from digitsOf_eq r 9 (by omega), dsb, gn]
  dsimp only
  rw [Bool.not_true, cond_false, power_eq r.length (by omega), dsb, product_eq n _ (by omega) (by omega), dsb]
  have hm : n * 10 ^ r.length ≤ 10000000000000000000 * 10000000000000000000 := Nat.mul_le_mul (by omega) hp
  have pw : ratio_wide_plus ⟨hiW (n * 10 ^ r.length), loW (n * 10 ^ r.length)⟩ (ratio_wide.mk (0 : Int) (v : Int)) = some (WW (n * 10 ^ r.length + v)) := by
    have := plusW (n * 10 ^ r.length) v (by omega)
    rw [← this]
    congr 1
    simp [hiW, loW]
    constructor <;> omega
  rw [pw, dsb, reducedW neg _ _ (by omega) hp0 (by omega), dsb]
theorem parse_sign (neg : Bool) (t : Str) (h1 : 1 ≤ t.length) (hd : ∀ h : 0 < t.length, isD t[0] = true) (ht : t.length ≤ 1000) : ratio_Parse (if neg = true then 45 :: t else t) = ratio_Parse_j3 t neg := by
  cases neg with
  | true =>
    rw [if_pos rfl]
    unfold ratio_Parse
    rw [req_pos (fun _ => by simp <;> omega), show decide ((0 : Int) < ((45 :: t).length : Int)) = true by simp <;> omega, Bool.true_and]
    have : sx (45 :: t) (0 : Int) = 45 := by
      have := sx_nat (45 :: t) 0 (by simp)
      exact this
    rw [this, show ((45 : Int) == 45) = true by decide, cond_true, req_pos (by simp <;> omega)]
    rfl
  | false =>
    rw [if_neg (by decide)]
    unfold ratio_Parse
    rw [req_pos (fun _ => by omega), show decide ((0 : Int) < (t.length : Int)) = true by simp; omega, Bool.true_and]
    have h0 := hd (by omega)
    have : sx t (0 : Int) = ((t[0].toNat : Nat) : Int) := sx_nat t 0 (by omega)
    have hne : ¬ ((t[0].toNat : Nat) : Int) = 45 := by
      unfold isD at h0; simp at h0; omega
    rw [this, show ((((t[0].toNat : Nat) : Int)) == 45) = false by simpa using hne, cond_false]
theorem dd_head (n : Nat) (r : Str) (h : 0 < (dd n ++ r).length) : isD (dd n ++ r)[0] = true := by
  have h1 := dd_pos n
  rw [List.getElem_append_left (by omega)]
  exact List.all_eq_true.1 (dd_all n) _ (List.getElem_mem _)
/-! ### the reference's Digits -/
theorem digits_loop : ∀ (n : Nat) (s : Str), n < 340282366920938463463374607431768211456 → s.length + (dd n).length ≤ 1000 → iter ref01_Digits_l1 (s, hiW n, loW n) = some (dd n ++ s) := by
  intro n
  induction n using Nat.strongRecOn with
  | _ n ih =>
    intro s hn hs
    have e10 : ref01_Wide.mk (0 : Int) (10 : Int) = WR 10 := rfl
    have hdv : ref01_Divide (ref01_Wide.mk (hiW n) (loW n)) (ref01_Wide.mk (0 : Int) (10 : Int)) = some (WR (n / 10), WR (n % 10)) := Divide_eq n 10 hn (by omega) (by omega)
    have hlo : (WR (n % 10)).Lo = ((n % 10 : Nat) : Int) := by
      show ((n % 10 % 18446744073709551616 : Nat) : Int) = _
      rw [Nat.mod_eq_of_lt (by omega)]
    have hch : strOf [IntKind.u8.wrap (IntKind.u64.wrap ((48 : Int) + ((n % 10 : Nat) : Int)))] = [ch (n % 10)] := by
      rw [wrapU_id (by omega) (by omega)]
      have : IntKind.u8.wrap ((48 : Int) + ((n % 10 : Nat) : Int)) = ((48 + n % 10 : Nat) : Int) := by
        simp only [IntKind.wrap, IntKind.bits, IntKind.signed, Bool.false_and]
        simp
        omega
      rw [this]
      rfl
    have hz : (((WR (n / 10)).Hi == (0 : Int)) && ((WR (n / 10)).Lo == (0 : Int))) = decide (n < 10) := by
      rw [WR_zero (n / 10) (by omega)]
      rw [Bool.eq_iff_iff]; simp
    have st : ref01_Digits_l1 (s, hiW n, loW n) = bif decide (n < 10) then some (.inr ([ch (n % 10)] ++ s)) else some (.inl ([ch (n % 10)] ++ s, hiW (n / 10), loW (n / 10))) := by
      simp only [ref01_Digits_l1]
      rw [hdv, dsb]
      dsimp only
      rw [hlo, hch, req_pos (by simp; omega)]
      unfold bindV
      rw [hz]
      rfl
    by_cases h : n < 10
    · rw [show decide (n < 10) = true by simpa using h, cond_true] at st
      rw [iter_inr st, dd_small h, Nat.mod_eq_of_lt h]
    · rw [show decide (n < 10) = false by simpa using h, cond_false] at st
      have hb := dd_big h
      rw [iter_inl st, ih (n / 10) (by omega) _ (by omega) (by rw [hb] at hs; simp at hs ⊢; omega), hb]
      simp
theorem Digits_eq (n : Nat) (hn : n < 340282366920938463463374607431768211456) : ref01_Digits (WR n) = some (dd n) := by
  have hl := dd_len 39 n (by omega) (by omega)
  have := digits_loop n [] hn (by simp; omega)
  rw [List.append_nil] at this
  exact this
theorem WRs (n : Nat) (h : n < 18446744073709551616) : ref01_Wide.mk (0 : Int) (n : Int) = WR n := by
  rw [WR_small n h]
/-! ### Format -/
def sgS (neg : Bool) (t : Str) : Str := if neg = true then 45 :: t else t
theorem itoa_eq (n : Int) (h : I64 n) : strconv_Itoa n = some (sgS (decide (n < 0)) (dd n.natAbs)) := by
  unfold strconv_Itoa sgS
  obtain ⟨h1, h2⟩ := h
  rw [if_pos (by omega)]
  unfold Lib.itoa
  by_cases hn : n < 0
  · rw [if_pos hn]; simp [hn]
  · rw [if_neg hn, show n.toNat = n.natAbs by omega]; simp [hn]
def fmtS (a : api_Ratio) : Str := sgS (decide (a.Num < 0)) (dd a.Num.natAbs ++ if a.Den = 1 then [] else 47 :: dd a.Den.natAbs)
theorem lenN (n : Nat) (h : n ≤ 1152921504606846976) : (dd n).length ≤ 19 := dd_len 19 n (by omega) (by omega)
theorem sgS_len (b : Bool) (t : Str) : (sgS b t).length ≤ t.length + 1 := by unfold sgS; split <;> simp
theorem Format_eq (a : api_Ratio) : ratio_Format a = some (if vR a = true then fmtS a else []) := by
  unfold ratio_Format
  rw [Valid_eq, dsb]
  by_cases hv : vR a = true
  · have hx := (vR_iff a).1 hv
    rw [hv, Bool.not_true, cond_false, if_pos rfl, itoa_eq _ ⟨by omega, by omega⟩, itoa_eq _ ⟨by omega, by omega⟩, dsb, dsb]
    have l1 := lenN a.Num.natAbs (by omega)
    have l2 := lenN a.Den.natAbs (by omega)
    have l3 := sgS_len (decide (a.Num < 0)) (dd a.Num.natAbs)
    have l4 := sgS_len (decide (a.Den < 0)) (dd a.Den.natAbs)
    unfold fmtS
    by_cases h1 : a.Den = 1
    · rw [show (a.Den == 1) = true by simpa using h1, cond_true, if_pos h1, List.append_nil]
    · rw [show (a.Den == 1) = false by simpa using h1, cond_false, if_neg h1, req_pos (by simp; omega), dsb, req_pos (by simp; omega)]
      congr 1
      rw [show decide (a.Den < 0) = false by simp; omega]
      unfold sgS
      split <;> simp
  · have hv : vR a = false := by simpa using hv
    rw [hv, Bool.not_false, cond_true, if_neg (by decide)]
theorem FormatR_eq (a : api_Ratio) : ref01_Format a = some (if vR a = true then fmtS a else []) := by
  unfold ref01_Format
  rw [ValidR_eq, dsb]
  by_cases hv : vR a = true
  · have hx := (vR_iff a).1 hv
    have l1 := lenN a.Num.natAbs (by omega)
    have l2 := lenN a.Den.natAbs (by omega)
    rw [hv, Bool.not_true, cond_false, if_pos rfl, Size_eq _ ⟨by omega, by omega⟩, dsb, WRs _ (by omega), Digits_eq _ (by omega), dsb]
    have fin : ∀ s : Str, s.length ≤ 20 → ref01_Format_j1 a s = some (s ++ if a.Den = 1 then [] else 47 :: dd a.Den.natAbs) := fun s hs => by
      unfold ref01_Format_j1
      by_cases h1 : a.Den = 1
      · rw [show (a.Den == 1) = true by simpa using h1, cond_true, if_pos h1, List.append_nil]
      · rw [show (a.Den == 1) = false by simpa using h1, cond_false, if_neg h1, req_pos (by simp; omega), Size_eq _ ⟨by omega, by omega⟩, dsb, WRs _ (by omega), Digits_eq _ (by omega), dsb, req_pos (by simp; omega)]
        simp
    unfold fmtS sgS
    by_cases hn : a.Num < 0
    · rw [show decide (a.Num < 0) = true by simpa using hn, cond_true, req_pos (by simp; omega), fin _ (by simp; omega), if_pos rfl]
      simp
    · rw [show decide (a.Num < 0) = false by simpa using hn, cond_false, fin _ (by omega)]
      simp
  · have hv : vR a = false := by simpa using hv
    rw [hv, Bool.not_false, cond_true, if_neg (by decide)]
theorem red_lowest {a : api_Ratio} (hv : vR a = true) : redOf (decide (a.Num < 0)) a.Num.natAbs a.Den.natAbs = (a, 0) := by
  have hx := (vR_iff a).1 hv
  unfold redOf
  rw [hx.2.2.2.2, Nat.div_one, Nat.div_one]
  unfold fitOf
  rw [if_pos ⟨by omega, by omega⟩]
  congr 1
  have e2 : ((a.Den.natAbs : Nat) : Int) = a.Den := by omega
  by_cases hn : a.Num < 0
  · simp only [hn, decide_true, if_true, e2]
    have : -((a.Num.natAbs : Nat) : Int) = a.Num := by omega
    rw [this]
  · simp only [hn, decide_false, e2]
    have : ((a.Num.natAbs : Nat) : Int) = a.Num := by omega
    simp [this]
theorem Parse_fmt (a : api_Ratio) (hv : vR a = true) : ratio_Parse (fmtS a) = some (a, 0) := by
  have hx := (vR_iff a).1 hv
  have l1 := lenN a.Num.natAbs (by omega)
  have l2 := lenN a.Den.natAbs (by omega)
  have p1 := dd_pos a.Num.natAbs
  unfold fmtS
  have hps := parse_sign (decide (a.Num < 0)) (dd a.Num.natAbs ++ if a.Den = 1 then [] else 47 :: dd a.Den.natAbs) (by simp; omega) (dd_head _ _) (by split <;> simp <;> omega)
  rw [show sgS (decide (a.Num < 0)) (dd a.Num.natAbs ++ if a.Den = 1 then [] else 47 :: dd a.Den.natAbs) = _ from rfl]
  unfold sgS
  rw [hps]
  by_cases h1 : a.Den = 1
  · rw [if_pos h1, List.append_nil, parse_one _ _ _ (dd_all _) p1 l1 (dd_val _)]
    rw [← red_lowest hv, h1]
    rfl
  · rw [if_neg h1, parse_frac _ _ _ _ a.Den.natAbs (dd_all _) p1 l1 (dd_val _) (dd_all _) (dd_pos _) l2 (dd_val _) (by omega), red_lowest hv]
theorem Parse_nil : ratio_Parse [] = some (⟨0, 0⟩, 7) := by
  unfold ratio_Parse
  rw [req_pos (fun h => by simp at h)]
  simp only [List.length_nil]
  rw [show decide ((0 : Int) < ((0 : Nat) : Int)) = false by decide, Bool.false_and, cond_false]
  unfold ratio_Parse_j3
  have hcut : iter (ratio_Parse_l2 []) (0 : Int) = some (0 : Int) := cut_loop [] (by simp) 0 0 rfl (by simp) (fun j hj h => by omega)
  rw [hcut, dsb]
  unfold ratio_Parse_j1
  rw [req_pos (by simp)]
  rfl
theorem pure_RatioBack (t : List Int) : law01_RatioBack t = some true := by
  unfold law01_RatioBack
  obtain ⟨t0, e0, k0⟩ := new_ok t
  rw [e0, dsb]
  obtain ⟨a, t1, e1, k1, _⟩ := tLoose t0 k0
  rw [e1, dsb]
  dsimp only
  rw [Format_eq, FormatR_eq, dsb, dsb, show (!((if vR a = true then fmtS a else []) == (if vR a = true then fmtS a else []))) = false by simp, cond_false, ValidR_eq]
  by_cases hv : vR a = true
  · rw [if_pos hv, Parse_fmt a hv, dsb]
    dsimp only
    rw [dsb, hv, Bool.not_true, cond_false, awake_eq]
    simp [req]
  · have hv' : vR a = false := by simpa using hv
    rw [if_neg hv, Parse_nil, dsb]
    dsimp only
    rw [dsb, hv', Bool.not_false, cond_true, awake_eq]
    simp [req]
end Go.LS
