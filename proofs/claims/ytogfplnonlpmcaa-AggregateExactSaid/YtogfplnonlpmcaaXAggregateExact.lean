/-
  'Rows.AggregateExactSaid' out of the law's contract. The row's step is the kit's own frame (proof-skeleton.mjs).
-/
import Derived.Test.YtogfplnonlpmcaaRows
import Derived.WalkKit
import Derived.ProofKit
import Derived.OpenShut
import Derived.ShutString
import Derived.ChangeOld
import Derived.Below
import Derived.Test.YtogfplnonlpmcaaK3
import Derived.Test.YtogfplnonlpmcaaPAX
import Derived.Test.YtogfplnonlpmcaaLs31
namespace Go.Proofs.Ytogfplnonlpmcaa.aggregateExact
open Go.ChangeShapes Go.WideShapes Go.ChangeAt Go.RowKit
set_option linter.all false
set_option linter.unusedSimpArgs false
set_option linter.unusedVariables false

theorem own : ownKnob Try.prog.godebug = none := by kernel_rfl
theorem laidOut : laidOutB Try.prog = true := by kernel_rfl

theorem el_57 {H : Type} {enc : TypeId × Value → H} {w : World} {spare : Nat → Bool} {held : Bool} (m : Nat) (cs : List Value) (y : DataW H × List MemPlace) (h : DataW.trod enc Try.prog w 0 spare held m 57 cs = some y) :
    ∃ z : LS.api_Unit, ((Lit.int .i64 z.Paper).wf = true ∧ (Lit.int .i64 z.Weight).wf = true ∧ (Lit.int .i64 z.Max).wf = true) ∧ cs = (LS.enc_api_Unit z).map LS.pvv := by
  obtain ⟨hl, hf⟩ := LS.open_fields Try.underlying57 h
  have hl' : cs.length = 3 := hl.trans (by kernel_rfl)
  obtain ⟨_, _, h0⟩ := hf 0 _ rfl
  obtain ⟨z0, e0, r0⟩ := LS.open_num Try.underlying3 h0
  replace e0 : (cs.drop 0).take (Try.prog.cellsOf 3) = _ := e0
  rw [show Try.prog.cellsOf 3 = 1 by kernel_rfl] at e0
  obtain ⟨_, _, h1⟩ := hf 1 _ rfl
  obtain ⟨z1, e1, r1⟩ := LS.open_num Try.underlying3 h1
  replace e1 : (cs.drop 1).take (Try.prog.cellsOf 3) = _ := e1
  rw [show Try.prog.cellsOf 3 = 1 by kernel_rfl] at e1
  obtain ⟨_, _, h2⟩ := hf 2 _ rfl
  obtain ⟨z2, e2, r2⟩ := LS.open_num Try.underlying3 h2
  replace e2 : (cs.drop 2).take (Try.prog.cellsOf 3) = _ := e2
  rw [show Try.prog.cellsOf 3 = 1 by kernel_rfl] at e2
  rcases cs with _ | ⟨c0, cs⟩
  · simp at hl'
  rcases cs with _ | ⟨c1, cs⟩
  · simp at hl'
  rcases cs with _ | ⟨c2, cs⟩
  · simp at hl'
  rcases cs with _ | ⟨_, cs⟩
  · skip
    refine ⟨⟨z0, z1, z2⟩, ?_, ?_⟩
    · (repeat' apply And.intro) <;> first | assumption | (simp_all; done)
    · simp [LS.pvv, LS.pi, LS.enc_api_Unit] at e0 e1 e2 ⊢
      simp_all
  · simp at hl'
theorem en_57 : ∀ z : LS.api_Unit, (LS.enc_api_Unit z).length = 3 ∧ ∀ p ∈ LS.enc_api_Unit z, ∃ u, p = .val u ∧ LS.plain u = true := fun z => ⟨rfl, fun p hp => by
  simp [LS.enc_api_Unit, LS.pi] at hp
  rcases hp with rfl | rfl | rfl <;> exact ⟨_, rfl, rfl⟩⟩

theorem el_36 {H : Type} {enc : TypeId × Value → H} {w : World} {spare : Nat → Bool} {held : Bool} (m : Nat) (cs : List Value) (y : DataW H × List MemPlace) (h : DataW.trod enc Try.prog w 0 spare held m 36 cs = some y) :
    ∃ z : LS.api_Ratio, ((Lit.int .i64 z.Num).wf = true ∧ (Lit.int .i64 z.Den).wf = true) ∧ cs = (LS.enc_api_Ratio z).map LS.pvv := by
  obtain ⟨hl, hf⟩ := LS.open_fields Try.underlying36 h
  have hl' : cs.length = 2 := hl.trans (by kernel_rfl)
  obtain ⟨_, _, h0⟩ := hf 0 _ rfl
  obtain ⟨z0, e0, r0⟩ := LS.open_num Try.underlying3 h0
  replace e0 : (cs.drop 0).take (Try.prog.cellsOf 3) = _ := e0
  rw [show Try.prog.cellsOf 3 = 1 by kernel_rfl] at e0
  obtain ⟨_, _, h1⟩ := hf 1 _ rfl
  obtain ⟨z1, e1, r1⟩ := LS.open_num Try.underlying3 h1
  replace e1 : (cs.drop 1).take (Try.prog.cellsOf 3) = _ := e1
  rw [show Try.prog.cellsOf 3 = 1 by kernel_rfl] at e1
  rcases cs with _ | ⟨c0, cs⟩
  · simp at hl'
  rcases cs with _ | ⟨c1, cs⟩
  · simp at hl'
  rcases cs with _ | ⟨_, cs⟩
  · skip
    refine ⟨⟨z0, z1⟩, ?_, ?_⟩
    · (repeat' apply And.intro) <;> first | assumption | (simp_all; done)
    · simp [LS.pvv, LS.pi, LS.enc_api_Ratio] at e0 e1 ⊢
      simp_all
  · simp at hl'
theorem en_36 : ∀ z : LS.api_Ratio, (LS.enc_api_Ratio z).length = 2 ∧ ∀ p ∈ LS.enc_api_Ratio z, ∃ u, p = .val u ∧ LS.plain u = true := fun z => ⟨rfl, fun p hp => by
  simp [LS.enc_api_Ratio, LS.pi] at hp
  rcases hp with rfl | rfl <;> exact ⟨_, rfl, rfl⟩⟩

theorem el_38 {H : Type} {enc : TypeId × Value → H} {w : World} {spare : Nat → Bool} {held : Bool} (m : Nat) (cs : List Value) (y : DataW H × List MemPlace) (h : DataW.trod enc Try.prog w 0 spare held m 38 cs = some y) :
    ∃ z : LS.api_UnitMark, ((Lit.int .i64 z.Kind).wf = true ∧ (Lit.int .i64 z.Value.Num).wf = true ∧ (Lit.int .i64 z.Value.Den).wf = true) ∧ cs = (LS.enc_api_UnitMark z).map LS.pvv := by
  obtain ⟨hl, hf⟩ := LS.open_fields Try.underlying38 h
  have hl' : cs.length = 3 := hl.trans (by kernel_rfl)
  obtain ⟨_, _, h0⟩ := hf 0 _ rfl
  obtain ⟨z0, e0, r0⟩ := LS.open_num Try.underlying3 h0
  replace e0 : (cs.drop 0).take (Try.prog.cellsOf 3) = _ := e0
  rw [show Try.prog.cellsOf 3 = 1 by kernel_rfl] at e0
  obtain ⟨_, _, h1⟩ := hf 1 _ rfl
  obtain ⟨z1, r1, e1⟩ := el_36 _ _ _ h1
  replace e1 : (cs.drop 1).take (Try.prog.cellsOf 36) = _ := e1
  rw [show Try.prog.cellsOf 36 = 2 by kernel_rfl] at e1
  rcases cs with _ | ⟨c0, cs⟩
  · simp at hl'
  rcases cs with _ | ⟨c1, cs⟩
  · simp at hl'
  rcases cs with _ | ⟨c2, cs⟩
  · simp at hl'
  rcases cs with _ | ⟨_, cs⟩
  · skip
    refine ⟨⟨z0, z1⟩, ?_, ?_⟩
    · (repeat' apply And.intro) <;> first | assumption | (simp_all; done)
    · simp [LS.pvv, LS.pi, LS.enc_api_Ratio, LS.enc_api_UnitMark] at e0 e1 ⊢
      simp_all
  · simp at hl'
theorem en_38 : ∀ z : LS.api_UnitMark, (LS.enc_api_UnitMark z).length = 3 ∧ ∀ p ∈ LS.enc_api_UnitMark z, ∃ u, p = .val u ∧ LS.plain u = true := fun z => ⟨rfl, fun p hp => by
  simp [LS.enc_api_UnitMark, LS.enc_api_Ratio, LS.pi] at hp
  rcases hp with rfl | rfl | rfl <;> exact ⟨_, rfl, rfl⟩⟩

set_option maxRecDepth 20000 in
theorem walk (a0 : Option Addr) (len0 cap0 : Nat) (z0 : List Int) (a1 : LS.api_Award) (c1_0 : Value) (c1_1 : Value) (a2 : Option Addr) (len2 cap2 : Nat) (z2 : List LS.api_UnitMark) (a3 : Int) (a4 : Int) (w : World) (w0 : LS.RepP w (LS.seen0 w) (.slice a0 len0 cap0) (.sl 1 (z0.map LS.encI))) (wz0 : ∀ n ∈ z0, (Lit.int .i64 n).wf = true) (wl0 : z0.length ≤ maxLen) (w1_0 : LS.RepP w (LS.seen0 w) c1_0 (.sl 3 (a1.Units.map LS.enc_api_Unit))) (wz1_0 : ∀ z ∈ a1.Units, (Lit.int .i64 z.Paper).wf = true ∧ (Lit.int .i64 z.Weight).wf = true ∧ (Lit.int .i64 z.Max).wf = true) (wl1_0 : a1.Units.length ≤ maxLen) (w1_1 : LS.RepP w (LS.seen0 w) c1_1 (.sl 1 (a1.Bounds.map LS.encI))) (wz1_1 : ∀ z ∈ a1.Bounds, (Lit.int .i64 z).wf = true) (wl1_1 : a1.Bounds.length ≤ maxLen) (w1_2 : (Lit.int .i64 a1.Max).wf = true) (w2 : LS.RepP w (LS.seen0 w) (.slice a2 len2 cap2) (.sl 3 (z2.map LS.enc_api_UnitMark))) (wz2 : ∀ z ∈ z2, (Lit.int .i64 z.Kind).wf = true ∧ (Lit.int .i64 z.Value.Num).wf = true ∧ (Lit.int .i64 z.Value.Den).wf = true) (wl2 : z2.length ≤ maxLen) (w3 : (Lit.int .i64 a3).wf = true) (w4 : (Lit.int .i64 a4).wf = true) :
    Calls Try.prog 3 #[.slice a0 len0 cap0, .agg #[c1_0, c1_1, .int .i64 a1.Max], .slice a2 len2 cap2, .int .i64 a3, .int .i64 a4] w fun e w' => e = .returned (.bool true) ∧ Below w.heap.size w w' :=
  LS.calls_below Try.func3 rfl (by kernel_rfl) (LS.ok_law36_AggregateExact z0 a1 z2 a3 a4 true (LS.pure_AggregateExact z0 a1 z2 a3 a4)) w _ (fun x hx => by simp [LS.knownTabs] at hx) (LS.repLs_cons (.p w0) (LS.repLs_cons (LS.repL_aggS (LS.repCs_cons (.p w1_0) (LS.repCs_cons (.p w1_1) (LS.repCs_cons (.p (.val _ rfl)) LS.repCs_nil)))) (LS.repLs_cons (.p w2) (LS.repLs_cons (LS.rep_int _ _) (LS.repLs_cons (LS.rep_int _ _) LS.repLs_nil)))))

set_option maxRecDepth 100000 in
theorem lifted (os : Os) (started : os.Started) (H : Type) (enc : TypeId × Value → H) :
    ReturnsInHanded {} Try.checked os 3 .any (Rows.aggregateExactSpec.pre6 enc Try.prog Try.f3 Rows.aggregateExactRow.domain false) (Rows.aggregateExactSpec.post enc Try.prog Try.f3 false true false false) := by
  refine returnsInHanded_of_change (C := Try.checked) own started (by kernel_rfl) Try.func3
    (ChangeSpec.witness6 (enc := enc) (C := Try.checked) false ⟨#[], #[.slice none 0 0, .agg #[.slice none 0 0, .slice none 0 0, .int .i64 0], .slice none 0 0, .int .i64 0, .int .i64 0], []⟩ 8 (by kernel_rfl) (by kernel_rfl) (by kernel_rfl) (by kernel_rfl)) ?_
  intro W base args ds gs before hval0 hW hcnd _
  have hval : ∀ (j : Nat) t v, Try.f3.params[j]? = some t → args[j]? = some v → Value.okWide Try.prog W .any base t v := hval0
  have hW' := hW
  obtain ⟨p, q, hA0, hV, rfl, hfz, hnd⟩ := hW
  have hA : DataW.TrodAll enc Try.prog W 0 (fun _ => true) true Try.f3.params.toList args.toList ds p := hA0
  rw [Try.params3] at hA hval
  obtain ⟨v0, vs0, d0, ds0, p0, q0, hargs, rfl, rfl, h0, r0⟩ := trodAll_cons hA
  obtain ⟨v1, vs1, d1, ds1, p1, q1, rfl, rfl, rfl, h1, r1⟩ := trodAll_cons r0
  obtain ⟨v2, vs2, d2, ds2, p2, q2, rfl, rfl, rfl, h2, r2⟩ := trodAll_cons r1
  obtain ⟨v3, vs3, d3, ds3, p3, q3, rfl, rfl, rfl, h3, r3⟩ := trodAll_cons r2
  obtain ⟨v4, vs4, d4, ds4, p4, q4, rfl, rfl, rfl, h4, r4⟩ := trodAll_cons r3
  obtain ⟨rfl, rfl, rfl⟩ := trodAll_nil r4
  obtain rfl : args = #[v0, v1, v2, v3, v4] := by cases args; simp_all
  obtain ⟨rfl, rfl⟩ := trodVars_none hV
  have hv0 := hval 0 22 v0 rfl rfl
  obtain ⟨a0, len0, cap0, rfl⟩ := okWide_slice Try.underlying22 (hval 0 22 v0 rfl rfl)
  have k0 := h0
  have lt0 : ∀ x ∈ p0, x.block < W.heap.size := by obtain ⟨m, hm⟩ := k0; exact DataW.trod_lt m _ _ _ hm
  obtain ⟨z0, w0, wz_, wl_⟩ : ∃ zs : List Int, LS.RepP W (LS.seen0 W) (.slice a0 len0 cap0) (.sl 1 (zs.map LS.encI)) ∧ (∀ n ∈ zs, (Lit.int .i64 n).wf = true) ∧ zs.length ≤ maxLen := by
    obtain ⟨fuel, hf⟩ := h0
    rcases open_ints Try.underlying22 Try.underlying3 (by kernel_rfl) hf with ⟨hcs, _⟩ | ⟨x, l, c, zs, hcs, _, hl, hm, hz, _, hcell, hwz⟩
    · simp [Value.cells] at hcs
      obtain ⟨rfl, rfl, rfl⟩ := hcs
      exact ⟨[], .slnil 1, by simp, by simp⟩
    · simp [Value.cells] at hcs
      obtain ⟨rfl, rfl, rfl⟩ := hcs
      exact ⟨zs.take len0, LS.rep_intsK LS.encI (fun _ => rfl) (LS.okWide_spot Try.underlying22 hv0) hl hm (by simpa using hz) hcell, fun n hn => hwz n (List.mem_of_mem_take hn), by simp; omega⟩
  have wz0 := wz_
  have wl0 := wl_
  have hv1 := hval 1 25 v1 rfl rfl
  have k1 := h1
  have lt1 : ∀ x ∈ p1, x.block < W.heap.size := by obtain ⟨m, hm⟩ := k1; exact DataW.trod_lt m _ _ _ hm
  simp only [Value.okWide, Try.underlying25] at hv1
  obtain ⟨cs1, rfl, hz1, hw1⟩ := hv1
  obtain ⟨c1_0, c1_1, c1_2, hcs1, q1_0, q1_1, q1_2⟩ : ∃ c1_0 c1_1 c1_2 : Value, cs1 = #[c1_0, c1_1, c1_2] ∧ (∃ zs : List LS.api_Unit, LS.RepP W (LS.seen0 W) c1_0 (.sl 3 (zs.map LS.enc_api_Unit)) ∧ (∀ z ∈ zs, (Lit.int .i64 z.Paper).wf = true ∧ (Lit.int .i64 z.Weight).wf = true ∧ (Lit.int .i64 z.Max).wf = true) ∧ zs.length ≤ maxLen) ∧ (∃ zs : List Int, LS.RepP W (LS.seen0 W) c1_1 (.sl 1 (zs.map LS.encI)) ∧ (∀ z ∈ zs, (Lit.int .i64 z).wf = true) ∧ zs.length ≤ maxLen) ∧ (∃ n : Int, c1_2 = .int .i64 n ∧ (Lit.int .i64 n).wf = true) := by
    obtain ⟨fuel, hf⟩ := h1
    simp only [Value.cells] at hf
    have hsz : cs1.toList.length = 3 := by have := hz1.trans (show Try.prog.cellsOf 25 = 3 by kernel_rfl); simpa using this
    obtain ⟨_, hf⟩ := LS.open_fields Try.underlying25 hf
    obtain ⟨_, _, g_0⟩ := hf 0 _ rfl
    replace g_0 : DataW.trod _ _ _ _ _ _ _ 23 ((cs1.toList.drop 0).take (Try.prog.cellsOf 23)) = _ := g_0
    rw [show Try.prog.cellsOf 23 = 1 by kernel_rfl] at g_0
    obtain ⟨_, _, g_1⟩ := hf 1 _ rfl
    replace g_1 : DataW.trod _ _ _ _ _ _ _ 22 ((cs1.toList.drop 1).take (Try.prog.cellsOf 22)) = _ := g_1
    rw [show Try.prog.cellsOf 22 = 1 by kernel_rfl] at g_1
    obtain ⟨_, _, g_2⟩ := hf 2 _ rfl
    replace g_2 : DataW.trod _ _ _ _ _ _ _ 3 ((cs1.toList.drop 2).take (Try.prog.cellsOf 3)) = _ := g_2
    rw [show Try.prog.cellsOf 3 = 1 by kernel_rfl] at g_2
    have hrow := hw1
    obtain ⟨l1⟩ := cs1
    simp only at hsz g_0 g_1 g_2
    rcases l1 with _ | ⟨c1_0, l1⟩
    · simp at hsz
    rcases l1 with _ | ⟨c1_1, l1⟩
    · simp at hsz
    rcases l1 with _ | ⟨c1_2, l1⟩
    · simp at hsz
    rcases l1 with _ | ⟨_, l1⟩
    · skip
      simp only [List.drop_succ_cons, List.drop_zero, List.take_succ_cons, List.take_zero] at g_0 g_1 g_2
      refine ⟨c1_0, c1_1, c1_2, rfl, ?_, ?_, ?_⟩
      · exact LS.open_sl LS.enc_api_Unit 3 _ Try.underlying23 (by kernel_rfl) (by decide) (fun m cs y h => el_57 m cs y h) en_57 g_0 (LS.row_spot (i := 0) hrow (show Try.prog.cellTypes Try.prog.depth 25 = some [23, 22, 3] by kernel_rfl) rfl Try.underlying23 rfl)
      · exact LS.open_sl LS.encI 1 _ Try.underlying22 (by kernel_rfl) (by decide) (fun m cs y h => by obtain ⟨z, e1, r1⟩ := LS.open_num Try.underlying3 h; exact ⟨z, r1, e1⟩) (fun z => ⟨rfl, fun p hp => by simp [LS.encI] at hp; subst hp; exact ⟨_, rfl, rfl⟩⟩) g_1 (LS.row_spot (i := 1) hrow (show Try.prog.cellTypes Try.prog.depth 25 = some [23, 22, 3] by kernel_rfl) rfl Try.underlying22 rfl)
      · obtain ⟨n, e1, r1⟩ := LS.open_num Try.underlying3 g_2
        exact ⟨n, by simpa using e1, r1⟩
    · simp at hsz
  subst hcs1
  obtain ⟨z1_0, w1_0, wz1_0, wl1_0⟩ := q1_0
  obtain ⟨z1_1, w1_1, wz1_1, wl1_1⟩ := q1_1
  obtain ⟨n1_2, rfl, w1_2⟩ := q1_2
  have hv2 := hval 2 26 v2 rfl rfl
  obtain ⟨a2, len2, cap2, rfl⟩ := okWide_slice Try.underlying26 (hval 2 26 v2 rfl rfl)
  have k2 := h2
  have lt2 : ∀ x ∈ p2, x.block < W.heap.size := by obtain ⟨m, hm⟩ := k2; exact DataW.trod_lt m _ _ _ hm
  obtain ⟨z2, w2, wz2, wl2⟩ : ∃ zs : List LS.api_UnitMark, LS.RepP W (LS.seen0 W) (.slice a2 len2 cap2) (.sl 3 (zs.map LS.enc_api_UnitMark)) ∧ (∀ z ∈ zs, (Lit.int .i64 z.Kind).wf = true ∧ (Lit.int .i64 z.Value.Num).wf = true ∧ (Lit.int .i64 z.Value.Den).wf = true) ∧ zs.length ≤ maxLen := by
    obtain ⟨fuel, hf⟩ := h2
    exact LS.open_sl LS.enc_api_UnitMark 3 _ Try.underlying26 (by kernel_rfl) (by decide) (fun m cs y h => el_38 m cs y h) en_38 (by simpa [Value.cells] using hf) (fun a len cap ea => by cases ea; exact LS.okWide_spot Try.underlying26 hv2)
  obtain ⟨a3, rfl, rfl, rfl, w3⟩ := open_int Try.underlying3 (hval 3 3 v3 rfl rfl) h3
  obtain ⟨a4, rfl, rfl, rfl, w4⟩ := open_int Try.underlying3 (hval 4 3 v4 rfl rfl) h4
  clear hA0 hval0
  refine (walk a0 len0 cap0 z0 ⟨z1_0, z1_1, n1_2⟩ c1_0 c1_1 a2 len2 cap2 z2 a3 a4 W w0 wz0 wl0 w1_0 wz1_0 wl1_0 w1_1 wz1_1 wl1_1 w1_2 w2 wz2 wl2 w3 w4).mono fun e W' ⟨he, bel⟩ => ?_
  subst he
  exact ⟨_, rfl, _, _, _, [], _, [], hW', trodAll_mk1 (shut_bool Try.underlying4 _), (trodAll_cons_mk (Below.trod laidOut (by kernel_rfl) (of_decide_eq_true (by kernel_rfl)) k0 bel lt0) (trodAll_cons_mk (Below.trod laidOut (by kernel_rfl) (of_decide_eq_true (by kernel_rfl)) k1 bel lt1) (trodAll_cons_mk (Below.trod laidOut (by kernel_rfl) (of_decide_eq_true (by kernel_rfl)) k2 bel lt2) (trodAll_cons_mk (shut_int Try.underlying3 w3) (trodAll_cons_mk (shut_int Try.underlying3 w4) trodAll_mk0))))), rfl, bel.frame _, fun h => by cases h⟩

theorem over : Rows.aggregateExactRow.holds Try.pinned (OpenSpec.ofChange Rows.aggregateExactSpec) :=
  OpenClaim.holds_of_wide 3 Try.f3 rfl rfl rfl rfl rfl rfl rfl ⟨rfl, rfl, rfl, rfl, rfl⟩ rfl rfl rfl rfl rfl (by kernel_rfl) Try.func3 (by kernel_rfl)
    (of_decide_eq_true (by kernel_rfl)) (by unfold Func.isWrapper; first | (rw [if_pos (by decide +kernel)]; kernel_rfl) | (rw [if_neg (by decide +kernel)]; exact ⟨rfl, rfl⟩))
    (fun os started H enc _ => lifted os started H enc)

/-- THE STATEMENT -/
theorem proved : Rows.AggregateExactSaid := over
#print axioms proved
end Go.Proofs.Ytogfplnonlpmcaa.aggregateExact
