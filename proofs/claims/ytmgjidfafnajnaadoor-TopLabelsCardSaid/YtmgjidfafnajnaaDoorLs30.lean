/-
  The framework LS, part 30: functions that the model itself stands in for: Add64 and Sub64.
  No condition: lemmas.
-/
import Derived.Test.YtmgjidfafnajnaaDoorLs29
import Derived.Laws.Externs
import Derived.KernelRfl
import GoSem.Claim
namespace Go.LS
set_option linter.all false
set_option linter.unusedSimpArgs false
set_option linter.unusedVariables false
section
variable {P : Program}
theorem callOK_3_2 {f : FuncId} {k : IntKind} {x y c a b : Int} (h : ∀ w, (callFunc f #[.int k x, .int k y, .int k c]).run P w = .ok (.value (.tuple #[.int k a, .int k b])) w) :
    CallOK P f [.int k x, .int k y, .int k c] [] [.int k a, .int k b] [] := by
  intro w vs S ρ B hm hr
  obtain ⟨hl, h2⟩ := hr
  have hvs : vs = #[.int k x, .int k y, .int k c] := by
    apply Array.ext'
    match hv : vs.toList, hl with
    | [p, q, r], _ =>
      simp only [hv] at h2
      have h3 := repL_val (h2 0 (by simp) (by simp))
      have h4 := repL_val (h2 1 (by simp) (by simp))
      have h5 := repL_val (h2 2 (by simp) (by simp))
      simp only [List.getElem_cons_zero, List.getElem_cons_succ] at h3 h4 h5
      rw [h3, h4, h5]
  subst hvs
  unfold CallF
  rw [h w]
  have hH : heapOf' [] = heapOf [] := by funext j; simp [heapOf', heapOf]
  refine ⟨_, S, ρ, rfl, by rw [hH]; exact hm, fun _ _ h => h, fun _ _ h => .inl h, fun _ _ => rfl, fun k b o hk => .inr ⟨o, hk⟩, ?_⟩
  exact ⟨_, rfl, repLs_cons (rep_int _ _) (repLs_cons (rep_int _ _) repLs_nil)⟩
noncomputable def bits_Add64 (x y c : Int) : Option (Int × Int) := req (0 ≤ x ∧ 0 ≤ y ∧ 0 ≤ c ∧ c ≤ 1) (some ((x + y + c) % 18446744073709551616, (x + y + c) / 18446744073709551616))
noncomputable def bits_Sub64 (x y b : Int) : Option (Int × Int) := req (0 ≤ x ∧ 0 ≤ y ∧ y < 18446744073709551616 ∧ 0 ≤ b ∧ b ≤ 1) (some ((x + 18446744073709551616 - y - b) % 18446744073709551616, if x < y + b then 1 else 0))
def subEntry : Array Value → Sem Value := fun args => do
  let (x, y, b) ← Extern.MathBitsCarry.three "Sub64" args
  pure (Extern.MathBitsCarry.pair ((x + Extern.MathBitsCarry.m64 - y - b) % Extern.MathBitsCarry.m64) (if x < y + b then 1 else 0))
theorem okAdd64 {f : FuncId} {fn : Func} (hf : P.funcs[f]? = some fn) (hname : (fn.name == "runtime.NumGoroutine") = false) (hb : fn.body.isNone = true) (hn : Extern.findNext fn = none) (he : Extern.find fn = some add64Entry)
    (x y c : Int) (r : Int × Int) (H : bits_Add64 x y c = some r) : CallOK P f [.int .u64 x, .int .u64 y, .int .u64 c] [] [.int .u64 r.1, .int .u64 r.2] [] := by
  obtain ⟨⟨h1, h2, h3, h4⟩, H⟩ := req_some H
  obtain rfl := Option.some.inj H
  refine callOK_3_2 fun w => ?_
  rw [run_callFunc_extern hf hname hb hn he, run_add64 x y c h1 h2 h3 h4]
  rfl
theorem run_subE (x y b : Nat) (hb : b ≤ 1) (w : World) : (subEntry #[.int .u64 x, .int .u64 y, .int .u64 b]).run P w =
      .ok (.tuple #[.int .u64 (((x + 18446744073709551616 - y - b) % 18446744073709551616 : Nat) : Int), .int .u64 ((if x < y + b then 1 else 0 : Nat) : Int)]) w := by
  have : b = 0 ∨ b = 1 := by omega
  rcases this with rfl | rfl <;> rfl
theorem okSub64 {f : FuncId} {fn : Func} (hf : P.funcs[f]? = some fn) (hname : (fn.name == "runtime.NumGoroutine") = false) (hb : fn.body.isNone = true) (hn : Extern.findNext fn = none) (he : Extern.find fn = some subEntry)
    (x y b : Int) (r : Int × Int) (H : bits_Sub64 x y b = some r) : CallOK P f [.int .u64 x, .int .u64 y, .int .u64 b] [] [.int .u64 r.1, .int .u64 r.2] [] := by
  obtain ⟨⟨h1, h2, h5, h3, h4⟩, H⟩ := req_some H
  obtain rfl := Option.some.inj H
  refine callOK_3_2 fun w => ?_
  obtain ⟨X, rfl⟩ := Int.eq_ofNat_of_zero_le h1
  obtain ⟨Y, rfl⟩ := Int.eq_ofNat_of_zero_le h2
  obtain ⟨Z, rfl⟩ := Int.eq_ofNat_of_zero_le h3
  rw [run_callFunc_extern hf hname hb hn he, run_subE X Y Z (by omega)]
  simp only [Result.andThen]
  congr 5
  · congr 1
    omega
  · congr 2
    split <;> split <;> omega
theorem rep_intsK {w : World} {k : IntKind} {x : Addr} {len cap : Nat} {zs : List Int} (enc : Int → List PV) (henc : ∀ n, enc n = [.val (.int k n)]) (hsp : x.spot = none) (hl : len ≤ cap) (hm : cap ≤ maxLen) (hz : zs.length = cap) (hc : ∀ i, i < zs.length → w.cell? (x.add i) = some (.int k (zs.getD i 0))) :
    RepP w (seen0 w) (.slice (some x) len cap) (.sl 1 ((zs.take len).map enc)) := by
  obtain ⟨b, o, sp⟩ := x
  have hsp' : sp = none := hsp
  subst hsp'
  have hadd : ∀ i, (⟨b, o, none⟩ : Addr).add i = ⟨b, o + i, none⟩ := fun i => by
    unfold Addr.add
    by_cases h : i = 0
    · subst h; rfl
    · rw [if_neg h]
  refine .sl b o len cap 1 (fun i _ => .int k (zs.getD i 0)) _ (by simp; omega) hl (Nat.le_refl _) (Nat.le_trans hl (Nat.le_trans hm (by unfold maxLen huge; decide))) (fun y hy => ?_) (fun i j hi hj => ?_) (fun i j hi hj => ?_)
  · obtain ⟨n, _, rfl⟩ := List.mem_map.1 hy; rw [henc]; rfl
  · have hj0 : j = 0 := by omega
    subst hj0
    have h := hc i (by omega)
    rw [hadd] at h
    rw [show o + (i * 1 + 0) = o + i by omega]
    refine ⟨?_, h⟩
    unfold World.cell? at h
    split at h
    · rename_i c t fr hh
      exact (Array.getElem?_eq_some_iff.1 hh).1
    · cases h
  · simp only [List.length_map, List.length_take] at hi
    simp only [List.getElem_map, List.getElem_take, henc] at hj ⊢
    have hj0 : j = 0 := by simpa using hj
    subst hj0
    have hi' : i < zs.length := by omega
    simp only [List.getElem_cons_zero]
    have : zs.getD i 0 = zs[i] := by simp [List.getD, hi']
    rw [this]
    exact .val _ rfl
theorem rng_u8 {n : Int} (h : (Lit.int .u8 n).wf = true) : 0 ≤ n ∧ n < 256 := by
  simp [Lit.wf, IntKind.min, IntKind.max, IntKind.bits, IntKind.signed] at h
  omega
theorem rng_i64 {n : Int} (h : (Lit.int .i64 n).wf = true) : -9223372036854775808 ≤ n ∧ n < 9223372036854775808 := by
  simp [Lit.wf, IntKind.min, IntKind.max, IntKind.bits, IntKind.signed] at h
  omega
end
end Go.LS
