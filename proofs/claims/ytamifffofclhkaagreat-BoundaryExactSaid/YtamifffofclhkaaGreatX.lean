/-
  'Rows.BoundaryExactSaid' out of the law's contract. The row's step is the kit's own frame (proof-skeleton.mjs).
-/
import Derived.Test.YtamifffofclhkaaGreatRows
import Derived.WalkKit
import Derived.ProofKit
import Derived.OpenShut
import Derived.ShutString
import Derived.ChangeOld
import Derived.Below
import Derived.Test.YtamifffofclhkaaGreatK4
import Derived.Test.YtamifffofclhkaaGreatPBE
import Derived.Test.YtamifffofclhkaaGreatLs31
namespace Go.Proofs.YtamifffofclhkaaGreat.boundaryExact
open Go.ChangeShapes Go.WideShapes Go.ChangeAt Go.RowKit
set_option linter.all false
set_option linter.unusedSimpArgs false
set_option linter.unusedVariables false

theorem own : ownKnob Tryz.prog.godebug = none := by kernel_rfl
theorem laidOut : laidOutB Tryz.prog = true := by kernel_rfl

theorem el_26 {H : Type} {enc : TypeId × Value → H} {w : World} {spare : Nat → Bool} {held : Bool} (m : Nat) (cs : List Value) (y : DataW H × List MemPlace) (h : DataW.trod enc Tryz.prog w 0 spare held m 26 cs = some y) :
    ∃ z : LS.api_Ratio, ((Lit.int .i64 z.Num).wf = true ∧ (Lit.int .i64 z.Den).wf = true) ∧ cs = (LS.enc_api_Ratio z).map LS.pvv := by
  obtain ⟨hl, hf⟩ := LS.open_fields Tryz.underlying26 h
  have hl' : cs.length = 2 := hl.trans (by kernel_rfl)
  obtain ⟨_, _, h0⟩ := hf 0 _ rfl
  obtain ⟨z0, e0, r0⟩ := LS.open_num Tryz.underlying3 h0
  replace e0 : (cs.drop 0).take (Tryz.prog.cellsOf 3) = _ := e0
  rw [show Tryz.prog.cellsOf 3 = 1 by kernel_rfl] at e0
  obtain ⟨_, _, h1⟩ := hf 1 _ rfl
  obtain ⟨z1, e1, r1⟩ := LS.open_num Tryz.underlying3 h1
  replace e1 : (cs.drop 1).take (Tryz.prog.cellsOf 3) = _ := e1
  rw [show Tryz.prog.cellsOf 3 = 1 by kernel_rfl] at e1
  rcases cs with _ | ⟨c0, cs⟩
  · simp at hl'
  rcases cs with _ | ⟨c1, cs⟩
  · simp at hl'
  rcases cs with _ | ⟨_, cs⟩
  · skip
    refine ⟨⟨z0, z1⟩, ?_, ?_⟩
    · (repeat' apply And.intro) <;> first | assumption | (simp_all; done)
    · simp [LS.pvv, LS.pi, LS.enc_api_Ratio] at e0 e1 ⊢
      simp_all
  · simp at hl'
theorem en_26 : ∀ z : LS.api_Ratio, (LS.enc_api_Ratio z).length = 2 ∧ ∀ p ∈ LS.enc_api_Ratio z, ∃ u, p = .val u ∧ LS.plain u = true := fun z => ⟨rfl, fun p hp => by
  simp [LS.enc_api_Ratio, LS.pi] at hp
  rcases hp with rfl | rfl <;> exact ⟨_, rfl, rfl⟩⟩

theorem el_68 {H : Type} {enc : TypeId × Value → H} {w : World} {spare : Nat → Bool} {held : Bool} (m : Nat) (cs : List Value) (y : DataW H × List MemPlace) (h : DataW.trod enc Tryz.prog w 0 spare held m 68 cs = some y) :
    ∃ z : LS.api_Point, ((Lit.int .i64 z.X.Num).wf = true ∧ (Lit.int .i64 z.X.Den).wf = true ∧ (Lit.int .i64 z.Y.Num).wf = true ∧ (Lit.int .i64 z.Y.Den).wf = true) ∧ cs = (LS.enc_api_Point z).map LS.pvv := by
  obtain ⟨hl, hf⟩ := LS.open_fields Tryz.underlying68 h
  have hl' : cs.length = 4 := hl.trans (by kernel_rfl)
  obtain ⟨_, _, h0⟩ := hf 0 _ rfl
  obtain ⟨z0, r0, e0⟩ := el_26 _ _ _ h0
  replace e0 : (cs.drop 0).take (Tryz.prog.cellsOf 26) = _ := e0
  rw [show Tryz.prog.cellsOf 26 = 2 by kernel_rfl] at e0
  obtain ⟨_, _, h1⟩ := hf 1 _ rfl
  obtain ⟨z1, r1, e1⟩ := el_26 _ _ _ h1
  replace e1 : (cs.drop 2).take (Tryz.prog.cellsOf 26) = _ := e1
  rw [show Tryz.prog.cellsOf 26 = 2 by kernel_rfl] at e1
  rcases cs with _ | ⟨c0, cs⟩
  · simp at hl'
  rcases cs with _ | ⟨c1, cs⟩
  · simp at hl'
  rcases cs with _ | ⟨c2, cs⟩
  · simp at hl'
  rcases cs with _ | ⟨c3, cs⟩
  · simp at hl'
  rcases cs with _ | ⟨_, cs⟩
  · skip
    refine ⟨⟨z0, z1⟩, ?_, ?_⟩
    · (repeat' apply And.intro) <;> first | assumption | (simp_all; done)
    · simp [LS.pvv, LS.pi, LS.enc_api_Point, LS.enc_api_Ratio] at e0 e1 ⊢
      simp_all
  · simp at hl'
theorem en_68 : ∀ z : LS.api_Point, (LS.enc_api_Point z).length = 4 ∧ ∀ p ∈ LS.enc_api_Point z, ∃ u, p = .val u ∧ LS.plain u = true := fun z => ⟨rfl, fun p hp => by
  simp [LS.enc_api_Point, LS.enc_api_Ratio, LS.pi] at hp
  rcases hp with rfl | rfl | rfl | rfl <;> exact ⟨_, rfl, rfl⟩⟩

set_option maxRecDepth 20000 in
theorem walk (a0 : Option Addr) (len0 cap0 : Nat) (z0 : List Int) (a1 : Option Addr) (len1 cap1 : Nat) (z1 : List Int) (a2 : LS.api_Distribution) (c2_0 : Value) (a3 : LS.api_Ratio) (a4 : LS.api_Curve) (c4_0 : Value) (a5 : Int) (a6 : Int) (w : World) (w0 : LS.RepP w (LS.seen0 w) (.slice a0 len0 cap0) (.sl 1 (z0.map LS.encI))) (wz0 : ∀ n ∈ z0, (Lit.int .i64 n).wf = true) (wl0 : z0.length ≤ maxLen) (w1 : LS.RepP w (LS.seen0 w) (.slice a1 len1 cap1) (.sl 1 (z1.map LS.encI))) (wz1 : ∀ n ∈ z1, (Lit.int .i64 n).wf = true) (wl1 : z1.length ≤ maxLen) (w2_0 : LS.RepP w (LS.seen0 w) c2_0 (.sl 1 (a2.Counts.map LS.encI))) (wz2_0 : ∀ z ∈ a2.Counts, (Lit.int .i64 z).wf = true) (wl2_0 : a2.Counts.length ≤ maxLen) (w3_0 : (Lit.int .i64 a3.Num).wf = true) (w3_1 : (Lit.int .i64 a3.Den).wf = true) (w4_0 : LS.RepP w (LS.seen0 w) c4_0 (.sl 4 (a4.Points.map LS.enc_api_Point))) (wz4_0 : ∀ z ∈ a4.Points, (Lit.int .i64 z.X.Num).wf = true ∧ (Lit.int .i64 z.X.Den).wf = true ∧ (Lit.int .i64 z.Y.Num).wf = true ∧ (Lit.int .i64 z.Y.Den).wf = true) (wl4_0 : a4.Points.length ≤ maxLen) (w5 : (Lit.int .i64 a5).wf = true) (w6 : (Lit.int .i64 a6).wf = true) :
    Calls Tryz.prog 3 #[.slice a0 len0 cap0, .slice a1 len1 cap1, .agg #[c2_0], .agg #[.int .i64 a3.Num, .int .i64 a3.Den], .agg #[c4_0], .int .i64 a5, .int .i64 a6] w fun e w' => e = .returned (.bool true) ∧ Below w.heap.size w w' :=
  LS.calls_below Tryz.func3 rfl (by kernel_rfl) (LS.ok_law35_BoundaryExact z0 z1 a2 a3 a4 a5 a6 true (LS.pure_BoundaryExact z0 z1 a2 a3 a4 a5 a6)) w _ (fun x hx => by simp [LS.knownTabs] at hx) (LS.repLs_cons (.p w0) (LS.repLs_cons (.p w1) (LS.repLs_cons (LS.repL_aggS (LS.repCs_cons (.p w2_0) LS.repCs_nil)) (LS.repLs_cons (LS.repL_aggS (LS.repCs_cons (.p (.val _ rfl)) (LS.repCs_cons (.p (.val _ rfl)) LS.repCs_nil))) (LS.repLs_cons (LS.repL_aggS (LS.repCs_cons (.p w4_0) LS.repCs_nil)) (LS.repLs_cons (LS.rep_int _ _) (LS.repLs_cons (LS.rep_int _ _) LS.repLs_nil)))))))

set_option maxRecDepth 100000 in
theorem lifted (os : Os) (started : os.Started) (H : Type) (enc : TypeId × Value → H) :
    ReturnsInHanded {} Tryz.checked os 3 .any (Rows.boundaryExactSpec.pre6 enc Tryz.prog Tryz.f3 Rows.boundaryExactRow.domain false) (Rows.boundaryExactSpec.post enc Tryz.prog Tryz.f3 false true false false) := by
  refine returnsInHanded_of_change (C := Tryz.checked) own started (by kernel_rfl) Tryz.func3
    (ChangeSpec.witness6 (enc := enc) (C := Tryz.checked) false ⟨#[], #[.slice none 0 0, .slice none 0 0, .agg #[.slice none 0 0], .agg #[.int .i64 0, .int .i64 0], .agg #[.slice none 0 0], .int .i64 0, .int .i64 0], []⟩ 8 (by kernel_rfl) (by kernel_rfl) (by kernel_rfl) (by kernel_rfl)) ?_
  intro W base args ds gs before hval0 hW hcnd _
  have hval : ∀ (j : Nat) t v, Tryz.f3.params[j]? = some t → args[j]? = some v → Value.okWide Tryz.prog W .any base t v := hval0
  have hW' := hW
  obtain ⟨p, q, hA0, hV, rfl, hfz, hnd⟩ := hW
  have hA : DataW.TrodAll enc Tryz.prog W 0 (fun _ => true) true Tryz.f3.params.toList args.toList ds p := hA0
  rw [Tryz.params3] at hA hval
  obtain ⟨v0, vs0, d0, ds0, p0, q0, hargs, rfl, rfl, h0, r0⟩ := trodAll_cons hA
  obtain ⟨v1, vs1, d1, ds1, p1, q1, rfl, rfl, rfl, h1, r1⟩ := trodAll_cons r0
  obtain ⟨v2, vs2, d2, ds2, p2, q2, rfl, rfl, rfl, h2, r2⟩ := trodAll_cons r1
  obtain ⟨v3, vs3, d3, ds3, p3, q3, rfl, rfl, rfl, h3, r3⟩ := trodAll_cons r2
  obtain ⟨v4, vs4, d4, ds4, p4, q4, rfl, rfl, rfl, h4, r4⟩ := trodAll_cons r3
  obtain ⟨v5, vs5, d5, ds5, p5, q5, rfl, rfl, rfl, h5, r5⟩ := trodAll_cons r4
  obtain ⟨v6, vs6, d6, ds6, p6, q6, rfl, rfl, rfl, h6, r6⟩ := trodAll_cons r5
  obtain ⟨rfl, rfl, rfl⟩ := trodAll_nil r6
  obtain rfl : args = #[v0, v1, v2, v3, v4, v5, v6] := by cases args; simp_all
  obtain ⟨rfl, rfl⟩ := trodVars_none hV
  have hv0 := hval 0 22 v0 rfl rfl
  obtain ⟨a0, len0, cap0, rfl⟩ := okWide_slice Tryz.underlying22 (hval 0 22 v0 rfl rfl)
  have k0 := h0
  have lt0 : ∀ x ∈ p0, x.block < W.heap.size := by obtain ⟨m, hm⟩ := k0; exact DataW.trod_lt m _ _ _ hm
  obtain ⟨z0, w0, wz_, wl_⟩ : ∃ zs : List Int, LS.RepP W (LS.seen0 W) (.slice a0 len0 cap0) (.sl 1 (zs.map LS.encI)) ∧ (∀ n ∈ zs, (Lit.int .i64 n).wf = true) ∧ zs.length ≤ maxLen := by
    obtain ⟨fuel, hf⟩ := h0
    rcases open_ints Tryz.underlying22 Tryz.underlying3 (by kernel_rfl) hf with ⟨hcs, _⟩ | ⟨x, l, c, zs, hcs, _, hl, hm, hz, _, hcell, hwz⟩
    · simp [Value.cells] at hcs
      obtain ⟨rfl, rfl, rfl⟩ := hcs
      exact ⟨[], .slnil 1, by simp, by simp⟩
    · simp [Value.cells] at hcs
      obtain ⟨rfl, rfl, rfl⟩ := hcs
      exact ⟨zs.take len0, LS.rep_intsK LS.encI (fun _ => rfl) (LS.okWide_spot Tryz.underlying22 hv0) hl hm (by simpa using hz) hcell, fun n hn => hwz n (List.mem_of_mem_take hn), by simp; omega⟩
  have wz0 := wz_
  have wl0 := wl_
  have hv1 := hval 1 22 v1 rfl rfl
  obtain ⟨a1, len1, cap1, rfl⟩ := okWide_slice Tryz.underlying22 (hval 1 22 v1 rfl rfl)
  have k1 := h1
  have lt1 : ∀ x ∈ p1, x.block < W.heap.size := by obtain ⟨m, hm⟩ := k1; exact DataW.trod_lt m _ _ _ hm
  obtain ⟨z1, w1, wz_, wl_⟩ : ∃ zs : List Int, LS.RepP W (LS.seen0 W) (.slice a1 len1 cap1) (.sl 1 (zs.map LS.encI)) ∧ (∀ n ∈ zs, (Lit.int .i64 n).wf = true) ∧ zs.length ≤ maxLen := by
    obtain ⟨fuel, hf⟩ := h1
    rcases open_ints Tryz.underlying22 Tryz.underlying3 (by kernel_rfl) hf with ⟨hcs, _⟩ | ⟨x, l, c, zs, hcs, _, hl, hm, hz, _, hcell, hwz⟩
    · simp [Value.cells] at hcs
      obtain ⟨rfl, rfl, rfl⟩ := hcs
      exact ⟨[], .slnil 1, by simp, by simp⟩
    · simp [Value.cells] at hcs
      obtain ⟨rfl, rfl, rfl⟩ := hcs
      exact ⟨zs.take len1, LS.rep_intsK LS.encI (fun _ => rfl) (LS.okWide_spot Tryz.underlying22 hv1) hl hm (by simpa using hz) hcell, fun n hn => hwz n (List.mem_of_mem_take hn), by simp; omega⟩
  have wz1 := wz_
  have wl1 := wl_
  have hv2 := hval 2 24 v2 rfl rfl
  have k2 := h2
  have lt2 : ∀ x ∈ p2, x.block < W.heap.size := by obtain ⟨m, hm⟩ := k2; exact DataW.trod_lt m _ _ _ hm
  simp only [Value.okWide, Tryz.underlying24] at hv2
  obtain ⟨cs2, rfl, hz2, hw2⟩ := hv2
  obtain ⟨c2_0, hcs2, q2_0⟩ : ∃ c2_0 : Value, cs2 = #[c2_0] ∧ (∃ zs : List Int, LS.RepP W (LS.seen0 W) c2_0 (.sl 1 (zs.map LS.encI)) ∧ (∀ z ∈ zs, (Lit.int .i64 z).wf = true) ∧ zs.length ≤ maxLen) := by
    obtain ⟨fuel, hf⟩ := h2
    simp only [Value.cells] at hf
    have hsz : cs2.toList.length = 1 := by have := hz2.trans (show Tryz.prog.cellsOf 24 = 1 by kernel_rfl); simpa using this
    obtain ⟨_, hf⟩ := LS.open_fields Tryz.underlying24 hf
    obtain ⟨_, _, g_0⟩ := hf 0 _ rfl
    replace g_0 : DataW.trod _ _ _ _ _ _ _ 22 ((cs2.toList.drop 0).take (Tryz.prog.cellsOf 22)) = _ := g_0
    rw [show Tryz.prog.cellsOf 22 = 1 by kernel_rfl] at g_0
    have hrow := hw2
    obtain ⟨l2⟩ := cs2
    simp only at hsz g_0
    rcases l2 with _ | ⟨c2_0, l2⟩
    · simp at hsz
    rcases l2 with _ | ⟨_, l2⟩
    · skip
      simp only [List.drop_succ_cons, List.drop_zero, List.take_succ_cons, List.take_zero] at g_0
      refine ⟨c2_0, rfl, ?_⟩
      · exact LS.open_sl LS.encI 1 _ Tryz.underlying22 (by kernel_rfl) (by decide) (fun m cs y h => by obtain ⟨z, e1, r1⟩ := LS.open_num Tryz.underlying3 h; exact ⟨z, r1, e1⟩) (fun z => ⟨rfl, fun p hp => by simp [LS.encI] at hp; subst hp; exact ⟨_, rfl, rfl⟩⟩) g_0 (LS.row_spot (i := 0) hrow (show Tryz.prog.cellTypes Tryz.prog.depth 24 = some [22] by kernel_rfl) rfl Tryz.underlying22 rfl)
    · simp at hsz
  subst hcs2
  obtain ⟨z2_0, w2_0, wz2_0, wl2_0⟩ := q2_0
  have hv3 := hval 3 26 v3 rfl rfl
  have k3 := h3
  have lt3 : ∀ x ∈ p3, x.block < W.heap.size := by obtain ⟨m, hm⟩ := k3; exact DataW.trod_lt m _ _ _ hm
  simp only [Value.okWide, Tryz.underlying26] at hv3
  obtain ⟨cs3, rfl, hz3, hw3⟩ := hv3
  obtain ⟨c3_0, c3_1, hcs3, q3_0, q3_1⟩ : ∃ c3_0 c3_1 : Value, cs3 = #[c3_0, c3_1] ∧ (∃ n : Int, c3_0 = .int .i64 n ∧ (Lit.int .i64 n).wf = true) ∧ (∃ n : Int, c3_1 = .int .i64 n ∧ (Lit.int .i64 n).wf = true) := by
    obtain ⟨fuel, hf⟩ := h3
    simp only [Value.cells] at hf
    have hsz : cs3.toList.length = 2 := by have := hz3.trans (show Tryz.prog.cellsOf 26 = 2 by kernel_rfl); simpa using this
    obtain ⟨_, hf⟩ := LS.open_fields Tryz.underlying26 hf
    obtain ⟨_, _, g_0⟩ := hf 0 _ rfl
    replace g_0 : DataW.trod _ _ _ _ _ _ _ 3 ((cs3.toList.drop 0).take (Tryz.prog.cellsOf 3)) = _ := g_0
    rw [show Tryz.prog.cellsOf 3 = 1 by kernel_rfl] at g_0
    obtain ⟨_, _, g_1⟩ := hf 1 _ rfl
    replace g_1 : DataW.trod _ _ _ _ _ _ _ 3 ((cs3.toList.drop 1).take (Tryz.prog.cellsOf 3)) = _ := g_1
    rw [show Tryz.prog.cellsOf 3 = 1 by kernel_rfl] at g_1
    have hrow := hw3
    obtain ⟨l3⟩ := cs3
    simp only at hsz g_0 g_1
    rcases l3 with _ | ⟨c3_0, l3⟩
    · simp at hsz
    rcases l3 with _ | ⟨c3_1, l3⟩
    · simp at hsz
    rcases l3 with _ | ⟨_, l3⟩
    · skip
      simp only [List.drop_succ_cons, List.drop_zero, List.take_succ_cons, List.take_zero] at g_0 g_1
      refine ⟨c3_0, c3_1, rfl, ?_, ?_⟩
      · obtain ⟨n, e1, r1⟩ := LS.open_num Tryz.underlying3 g_0
        exact ⟨n, by simpa using e1, r1⟩
      · obtain ⟨n, e1, r1⟩ := LS.open_num Tryz.underlying3 g_1
        exact ⟨n, by simpa using e1, r1⟩
    · simp at hsz
  subst hcs3
  obtain ⟨n3_0, rfl, w3_0⟩ := q3_0
  obtain ⟨n3_1, rfl, w3_1⟩ := q3_1
  have hv4 := hval 4 29 v4 rfl rfl
  have k4 := h4
  have lt4 : ∀ x ∈ p4, x.block < W.heap.size := by obtain ⟨m, hm⟩ := k4; exact DataW.trod_lt m _ _ _ hm
  simp only [Value.okWide, Tryz.underlying29] at hv4
  obtain ⟨cs4, rfl, hz4, hw4⟩ := hv4
  obtain ⟨c4_0, hcs4, q4_0⟩ : ∃ c4_0 : Value, cs4 = #[c4_0] ∧ (∃ zs : List LS.api_Point, LS.RepP W (LS.seen0 W) c4_0 (.sl 4 (zs.map LS.enc_api_Point)) ∧ (∀ z ∈ zs, (Lit.int .i64 z.X.Num).wf = true ∧ (Lit.int .i64 z.X.Den).wf = true ∧ (Lit.int .i64 z.Y.Num).wf = true ∧ (Lit.int .i64 z.Y.Den).wf = true) ∧ zs.length ≤ maxLen) := by
    obtain ⟨fuel, hf⟩ := h4
    simp only [Value.cells] at hf
    have hsz : cs4.toList.length = 1 := by have := hz4.trans (show Tryz.prog.cellsOf 29 = 1 by kernel_rfl); simpa using this
    obtain ⟨_, hf⟩ := LS.open_fields Tryz.underlying29 hf
    obtain ⟨_, _, g_0⟩ := hf 0 _ rfl
    replace g_0 : DataW.trod _ _ _ _ _ _ _ 27 ((cs4.toList.drop 0).take (Tryz.prog.cellsOf 27)) = _ := g_0
    rw [show Tryz.prog.cellsOf 27 = 1 by kernel_rfl] at g_0
    have hrow := hw4
    obtain ⟨l4⟩ := cs4
    simp only at hsz g_0
    rcases l4 with _ | ⟨c4_0, l4⟩
    · simp at hsz
    rcases l4 with _ | ⟨_, l4⟩
    · skip
      simp only [List.drop_succ_cons, List.drop_zero, List.take_succ_cons, List.take_zero] at g_0
      refine ⟨c4_0, rfl, ?_⟩
      · exact LS.open_sl LS.enc_api_Point 4 _ Tryz.underlying27 (by kernel_rfl) (by decide) (fun m cs y h => el_68 m cs y h) en_68 g_0 (LS.row_spot (i := 0) hrow (show Tryz.prog.cellTypes Tryz.prog.depth 29 = some [27] by kernel_rfl) rfl Tryz.underlying27 rfl)
    · simp at hsz
  subst hcs4
  obtain ⟨z4_0, w4_0, wz4_0, wl4_0⟩ := q4_0
  obtain ⟨a5, rfl, rfl, rfl, w5⟩ := open_int Tryz.underlying3 (hval 5 3 v5 rfl rfl) h5
  obtain ⟨a6, rfl, rfl, rfl, w6⟩ := open_int Tryz.underlying3 (hval 6 3 v6 rfl rfl) h6
  clear hA0 hval0
  refine (walk a0 len0 cap0 z0 a1 len1 cap1 z1 ⟨z2_0⟩ c2_0 ⟨n3_0, n3_1⟩ ⟨z4_0⟩ c4_0 a5 a6 W w0 wz0 wl0 w1 wz1 wl1 w2_0 wz2_0 wl2_0 w3_0 w3_1 w4_0 wz4_0 wl4_0 w5 w6).mono fun e W' ⟨he, bel⟩ => ?_
  subst he
  exact ⟨_, rfl, _, _, _, [], _, [], hW', trodAll_mk1 (shut_bool Tryz.underlying4 _), (trodAll_cons_mk (Below.trod laidOut (by kernel_rfl) (of_decide_eq_true (by kernel_rfl)) k0 bel lt0) (trodAll_cons_mk (Below.trod laidOut (by kernel_rfl) (of_decide_eq_true (by kernel_rfl)) k1 bel lt1) (trodAll_cons_mk (Below.trod laidOut (by kernel_rfl) (of_decide_eq_true (by kernel_rfl)) k2 bel lt2) (trodAll_cons_mk (Below.trod laidOut (by kernel_rfl) (of_decide_eq_true (by kernel_rfl)) k3 bel lt3) (trodAll_cons_mk (Below.trod laidOut (by kernel_rfl) (of_decide_eq_true (by kernel_rfl)) k4 bel lt4) (trodAll_cons_mk (shut_int Tryz.underlying3 w5) (trodAll_cons_mk (shut_int Tryz.underlying3 w6) trodAll_mk0))))))), rfl, bel.frame _, fun h => by cases h⟩

theorem over : Rows.boundaryExactRow.holds Tryz.pinned (OpenSpec.ofChange Rows.boundaryExactSpec) :=
  OpenClaim.holds_of_wide 3 Tryz.f3 rfl rfl rfl rfl rfl rfl rfl ⟨rfl, rfl, rfl, rfl, rfl⟩ rfl rfl rfl rfl rfl (by kernel_rfl) Tryz.func3 (by kernel_rfl)
    (of_decide_eq_true (by kernel_rfl)) (by unfold Func.isWrapper; first | (rw [if_pos (by decide +kernel)]; kernel_rfl) | (rw [if_neg (by decide +kernel)]; exact ⟨rfl, rfl⟩))
    (fun os started H enc _ => lifted os started H enc)

/-- THE STATEMENT -/
theorem proved : Rows.BoundaryExactSaid := over
#print axioms proved
end Go.Proofs.YtamifffofclhkaaGreat.boundaryExact
