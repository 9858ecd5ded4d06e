/-
  'Rows.DistributionExactSaid' out of the law's contract. The row's step is the kit's own frame (proof-skeleton.mjs).
-/
import Derived.Test.YtdfbbiahpcelmaaRows
import Derived.WalkKit
import Derived.ProofKit
import Derived.OpenShut
import Derived.ShutString
import Derived.ChangeOld
import Derived.Below
import Derived.Test.YtdfbbiahpcelmaaK3
import Derived.Test.YtdfbbiahpcelmaaPGX
import Derived.Test.YtdfbbiahpcelmaaLs31
namespace Go.Proofs.Ytdfbbiahpcelmaa.distributionExact
open Go.ChangeShapes Go.WideShapes Go.ChangeAt Go.RowKit
set_option linter.all false
set_option linter.unusedSimpArgs false
set_option linter.unusedVariables false

theorem own : ownKnob Try.prog.godebug = none := by kernel_rfl
theorem laidOut : laidOutB Try.prog = true := by kernel_rfl

set_option maxRecDepth 20000 in
theorem walk (a0 : Option Addr) (len0 cap0 : Nat) (z0 : List Int) (a1 : LS.api_Distribution) (c1_0 : Value) (a2 : Option Addr) (len2 cap2 : Nat) (z2 : List Int) (a3 : Int) (a4 : Int) (a5 : LS.api_Ratio) (w : World) (w0 : LS.RepP w (LS.seen0 w) (.slice a0 len0 cap0) (.sl 1 (z0.map LS.encI))) (wz0 : ∀ n ∈ z0, (Lit.int .i64 n).wf = true) (wl0 : z0.length ≤ maxLen) (w1_0 : LS.RepP w (LS.seen0 w) c1_0 (.sl 1 (a1.Counts.map LS.encI))) (wz1_0 : ∀ z ∈ a1.Counts, (Lit.int .i64 z).wf = true) (wl1_0 : a1.Counts.length ≤ maxLen) (w2 : LS.RepP w (LS.seen0 w) (.slice a2 len2 cap2) (.sl 1 (z2.map LS.encI))) (wz2 : ∀ n ∈ z2, (Lit.int .i64 n).wf = true) (wl2 : z2.length ≤ maxLen) (w3 : (Lit.int .i64 a3).wf = true) (w4 : (Lit.int .i64 a4).wf = true) (w5_0 : (Lit.int .i64 a5.Num).wf = true) (w5_1 : (Lit.int .i64 a5.Den).wf = true) :
    Calls Try.prog 8 #[.slice a0 len0 cap0, .agg #[c1_0], .slice a2 len2 cap2, .int .i64 a3, .int .i64 a4, .agg #[.int .i64 a5.Num, .int .i64 a5.Den]] w fun e w' => e = .returned (.bool true) ∧ Below w.heap.size w w' :=
  LS.calls_below Try.func8 rfl (by kernel_rfl) (LS.ok_law32_DistributionExact z0 a1 z2 a3 a4 a5 true (LS.pure_DistributionExact z0 a1 z2 a3 a4 a5)) w _ (fun x hx => by simp [LS.knownTabs] at hx) (LS.repLs_cons (.p w0) (LS.repLs_cons (LS.repL_aggS (LS.repCs_cons (.p w1_0) LS.repCs_nil)) (LS.repLs_cons (.p w2) (LS.repLs_cons (LS.rep_int _ _) (LS.repLs_cons (LS.rep_int _ _) (LS.repLs_cons (LS.repL_aggS (LS.repCs_cons (.p (.val _ rfl)) (LS.repCs_cons (.p (.val _ rfl)) LS.repCs_nil))) LS.repLs_nil))))))

set_option maxRecDepth 100000 in
theorem lifted (os : Os) (started : os.Started) (H : Type) (enc : TypeId × Value → H) :
    ReturnsInHanded {} Try.checked os 8 .any (Rows.distributionExactSpec.pre6 enc Try.prog Try.f8 Rows.distributionExactRow.domain false) (Rows.distributionExactSpec.post enc Try.prog Try.f8 false true false false) := by
  refine returnsInHanded_of_change (C := Try.checked) own started (by kernel_rfl) Try.func8
    (ChangeSpec.witness6 (enc := enc) (C := Try.checked) false ⟨#[], #[.slice none 0 0, .agg #[.slice none 0 0], .slice none 0 0, .int .i64 0, .int .i64 0, .agg #[.int .i64 0, .int .i64 0]], []⟩ 8 (by kernel_rfl) (by kernel_rfl) (by kernel_rfl) (by kernel_rfl)) ?_
  intro W base args ds gs before hval0 hW hcnd _
  have hval : ∀ (j : Nat) t v, Try.f8.params[j]? = some t → args[j]? = some v → Value.okWide Try.prog W .any base t v := hval0
  have hW' := hW
  obtain ⟨p, q, hA0, hV, rfl, hfz, hnd⟩ := hW
  have hA : DataW.TrodAll enc Try.prog W 0 (fun _ => true) true Try.f8.params.toList args.toList ds p := hA0
  rw [Try.params8] at hA hval
  obtain ⟨v0, vs0, d0, ds0, p0, q0, hargs, rfl, rfl, h0, r0⟩ := trodAll_cons hA
  obtain ⟨v1, vs1, d1, ds1, p1, q1, rfl, rfl, rfl, h1, r1⟩ := trodAll_cons r0
  obtain ⟨v2, vs2, d2, ds2, p2, q2, rfl, rfl, rfl, h2, r2⟩ := trodAll_cons r1
  obtain ⟨v3, vs3, d3, ds3, p3, q3, rfl, rfl, rfl, h3, r3⟩ := trodAll_cons r2
  obtain ⟨v4, vs4, d4, ds4, p4, q4, rfl, rfl, rfl, h4, r4⟩ := trodAll_cons r3
  obtain ⟨v5, vs5, d5, ds5, p5, q5, rfl, rfl, rfl, h5, r5⟩ := trodAll_cons r4
  obtain ⟨rfl, rfl, rfl⟩ := trodAll_nil r5
  obtain rfl : args = #[v0, v1, v2, v3, v4, v5] := by cases args; simp_all
  obtain ⟨rfl, rfl⟩ := trodVars_none hV
  have hv0 := hval 0 22 v0 rfl rfl
  obtain ⟨a0, len0, cap0, rfl⟩ := okWide_slice Try.underlying22 (hval 0 22 v0 rfl rfl)
  have k0 := h0
  have lt0 : ∀ x ∈ p0, x.block < W.heap.size := by obtain ⟨m, hm⟩ := k0; exact DataW.trod_lt m _ _ _ hm
  obtain ⟨z0, w0, wz_, wl_⟩ : ∃ zs : List Int, LS.RepP W (LS.seen0 W) (.slice a0 len0 cap0) (.sl 1 (zs.map LS.encI)) ∧ (∀ n ∈ zs, (Lit.int .i64 n).wf = true) ∧ zs.length ≤ maxLen := by
    obtain ⟨fuel, hf⟩ := h0
    rcases open_ints Try.underlying22 Try.underlying3 (by kernel_rfl) hf with ⟨hcs, _⟩ | ⟨x, l, c, zs, hcs, _, hl, hm, hz, _, hcell, hwz⟩
    · simp [Value.cells] at hcs
      obtain ⟨rfl, rfl, rfl⟩ := hcs
      exact ⟨[], .slnil 1, by simp, by simp⟩
    · simp [Value.cells] at hcs
      obtain ⟨rfl, rfl, rfl⟩ := hcs
      exact ⟨zs.take len0, LS.rep_intsK LS.encI (fun _ => rfl) (LS.okWide_spot Try.underlying22 hv0) hl hm (by simpa using hz) hcell, fun n hn => hwz n (List.mem_of_mem_take hn), by simp; omega⟩
  have wz0 := wz_
  have wl0 := wl_
  have hv1 := hval 1 26 v1 rfl rfl
  have k1 := h1
  have lt1 : ∀ x ∈ p1, x.block < W.heap.size := by obtain ⟨m, hm⟩ := k1; exact DataW.trod_lt m _ _ _ hm
  simp only [Value.okWide, Try.underlying26] at hv1
  obtain ⟨cs1, rfl, hz1, hw1⟩ := hv1
  obtain ⟨c1_0, hcs1, q1_0⟩ : ∃ c1_0 : Value, cs1 = #[c1_0] ∧ (∃ zs : List Int, LS.RepP W (LS.seen0 W) c1_0 (.sl 1 (zs.map LS.encI)) ∧ (∀ z ∈ zs, (Lit.int .i64 z).wf = true) ∧ zs.length ≤ maxLen) := by
    obtain ⟨fuel, hf⟩ := h1
    simp only [Value.cells] at hf
    have hsz : cs1.toList.length = 1 := by have := hz1.trans (show Try.prog.cellsOf 26 = 1 by kernel_rfl); simpa using this
    obtain ⟨_, hf⟩ := LS.open_fields Try.underlying26 hf
    obtain ⟨_, _, g_0⟩ := hf 0 _ rfl
    replace g_0 : DataW.trod _ _ _ _ _ _ _ 22 ((cs1.toList.drop 0).take (Try.prog.cellsOf 22)) = _ := g_0
    rw [show Try.prog.cellsOf 22 = 1 by kernel_rfl] at g_0
    have hrow := hw1
    obtain ⟨l1⟩ := cs1
    simp only at hsz g_0
    rcases l1 with _ | ⟨c1_0, l1⟩
    · simp at hsz
    rcases l1 with _ | ⟨_, l1⟩
    · skip
      simp only [List.drop_succ_cons, List.drop_zero, List.take_succ_cons, List.take_zero] at g_0
      refine ⟨c1_0, rfl, ?_⟩
      · exact LS.open_sl LS.encI 1 _ Try.underlying22 (by kernel_rfl) (by decide) (fun m cs y h => by obtain ⟨z, e1, r1⟩ := LS.open_num Try.underlying3 h; exact ⟨z, r1, e1⟩) (fun z => ⟨rfl, fun p hp => by simp [LS.encI] at hp; subst hp; exact ⟨_, rfl, rfl⟩⟩) g_0 (LS.row_spot (i := 0) hrow (show Try.prog.cellTypes Try.prog.depth 26 = some [22] by kernel_rfl) rfl Try.underlying22 rfl)
    · simp at hsz
  subst hcs1
  obtain ⟨z1_0, w1_0, wz1_0, wl1_0⟩ := q1_0
  have hv2 := hval 2 22 v2 rfl rfl
  obtain ⟨a2, len2, cap2, rfl⟩ := okWide_slice Try.underlying22 (hval 2 22 v2 rfl rfl)
  have k2 := h2
  have lt2 : ∀ x ∈ p2, x.block < W.heap.size := by obtain ⟨m, hm⟩ := k2; exact DataW.trod_lt m _ _ _ hm
  obtain ⟨z2, w2, wz_, wl_⟩ : ∃ zs : List Int, LS.RepP W (LS.seen0 W) (.slice a2 len2 cap2) (.sl 1 (zs.map LS.encI)) ∧ (∀ n ∈ zs, (Lit.int .i64 n).wf = true) ∧ zs.length ≤ maxLen := by
    obtain ⟨fuel, hf⟩ := h2
    rcases open_ints Try.underlying22 Try.underlying3 (by kernel_rfl) hf with ⟨hcs, _⟩ | ⟨x, l, c, zs, hcs, _, hl, hm, hz, _, hcell, hwz⟩
    · simp [Value.cells] at hcs
      obtain ⟨rfl, rfl, rfl⟩ := hcs
      exact ⟨[], .slnil 1, by simp, by simp⟩
    · simp [Value.cells] at hcs
      obtain ⟨rfl, rfl, rfl⟩ := hcs
      exact ⟨zs.take len2, LS.rep_intsK LS.encI (fun _ => rfl) (LS.okWide_spot Try.underlying22 hv2) hl hm (by simpa using hz) hcell, fun n hn => hwz n (List.mem_of_mem_take hn), by simp; omega⟩
  have wz2 := wz_
  have wl2 := wl_
  obtain ⟨a3, rfl, rfl, rfl, w3⟩ := open_int Try.underlying3 (hval 3 3 v3 rfl rfl) h3
  obtain ⟨a4, rfl, rfl, rfl, w4⟩ := open_int Try.underlying3 (hval 4 3 v4 rfl rfl) h4
  have hv5 := hval 5 31 v5 rfl rfl
  have k5 := h5
  have lt5 : ∀ x ∈ p5, x.block < W.heap.size := by obtain ⟨m, hm⟩ := k5; exact DataW.trod_lt m _ _ _ hm
  simp only [Value.okWide, Try.underlying31] at hv5
  obtain ⟨cs5, rfl, hz5, hw5⟩ := hv5
  obtain ⟨c5_0, c5_1, hcs5, q5_0, q5_1⟩ : ∃ c5_0 c5_1 : Value, cs5 = #[c5_0, c5_1] ∧ (∃ n : Int, c5_0 = .int .i64 n ∧ (Lit.int .i64 n).wf = true) ∧ (∃ n : Int, c5_1 = .int .i64 n ∧ (Lit.int .i64 n).wf = true) := by
    obtain ⟨fuel, hf⟩ := h5
    simp only [Value.cells] at hf
    have hsz : cs5.toList.length = 2 := by have := hz5.trans (show Try.prog.cellsOf 31 = 2 by kernel_rfl); simpa using this
    obtain ⟨_, hf⟩ := LS.open_fields Try.underlying31 hf
    obtain ⟨_, _, g_0⟩ := hf 0 _ rfl
    replace g_0 : DataW.trod _ _ _ _ _ _ _ 3 ((cs5.toList.drop 0).take (Try.prog.cellsOf 3)) = _ := g_0
    rw [show Try.prog.cellsOf 3 = 1 by kernel_rfl] at g_0
    obtain ⟨_, _, g_1⟩ := hf 1 _ rfl
    replace g_1 : DataW.trod _ _ _ _ _ _ _ 3 ((cs5.toList.drop 1).take (Try.prog.cellsOf 3)) = _ := g_1
    rw [show Try.prog.cellsOf 3 = 1 by kernel_rfl] at g_1
    have hrow := hw5
    obtain ⟨l5⟩ := cs5
    simp only at hsz g_0 g_1
    rcases l5 with _ | ⟨c5_0, l5⟩
    · simp at hsz
    rcases l5 with _ | ⟨c5_1, l5⟩
    · simp at hsz
    rcases l5 with _ | ⟨_, l5⟩
    · skip
      simp only [List.drop_succ_cons, List.drop_zero, List.take_succ_cons, List.take_zero] at g_0 g_1
      refine ⟨c5_0, c5_1, rfl, ?_, ?_⟩
      · obtain ⟨n, e1, r1⟩ := LS.open_num Try.underlying3 g_0
        exact ⟨n, by simpa using e1, r1⟩
      · obtain ⟨n, e1, r1⟩ := LS.open_num Try.underlying3 g_1
        exact ⟨n, by simpa using e1, r1⟩
    · simp at hsz
  subst hcs5
  obtain ⟨n5_0, rfl, w5_0⟩ := q5_0
  obtain ⟨n5_1, rfl, w5_1⟩ := q5_1
  clear hA0 hval0
  refine (walk a0 len0 cap0 z0 ⟨z1_0⟩ c1_0 a2 len2 cap2 z2 a3 a4 ⟨n5_0, n5_1⟩ W w0 wz0 wl0 w1_0 wz1_0 wl1_0 w2 wz2 wl2 w3 w4 w5_0 w5_1).mono fun e W' ⟨he, bel⟩ => ?_
  subst he
  exact ⟨_, rfl, _, _, _, [], _, [], hW', trodAll_mk1 (shut_bool Try.underlying4 _), (trodAll_cons_mk (Below.trod laidOut (by kernel_rfl) (of_decide_eq_true (by kernel_rfl)) k0 bel lt0) (trodAll_cons_mk (Below.trod laidOut (by kernel_rfl) (of_decide_eq_true (by kernel_rfl)) k1 bel lt1) (trodAll_cons_mk (Below.trod laidOut (by kernel_rfl) (of_decide_eq_true (by kernel_rfl)) k2 bel lt2) (trodAll_cons_mk (shut_int Try.underlying3 w3) (trodAll_cons_mk (shut_int Try.underlying3 w4) (trodAll_cons_mk (Below.trod laidOut (by kernel_rfl) (of_decide_eq_true (by kernel_rfl)) k5 bel lt5) trodAll_mk0)))))), rfl, bel.frame _, fun h => by cases h⟩

theorem over : Rows.distributionExactRow.holds Try.pinned (OpenSpec.ofChange Rows.distributionExactSpec) :=
  OpenClaim.holds_of_wide 8 Try.f8 rfl rfl rfl rfl rfl rfl rfl ⟨rfl, rfl, rfl, rfl, rfl⟩ rfl rfl rfl rfl rfl (by kernel_rfl) Try.func8 (by kernel_rfl)
    (of_decide_eq_true (by kernel_rfl)) (by unfold Func.isWrapper; first | (rw [if_pos (by decide +kernel)]; kernel_rfl) | (rw [if_neg (by decide +kernel)]; exact ⟨rfl, rfl⟩))
    (fun os started H enc _ => lifted os started H enc)

/-- THE STATEMENT -/
theorem proved : Rows.DistributionExactSaid := over
#print axioms proved
end Go.Proofs.Ytdfbbiahpcelmaa.distributionExact
