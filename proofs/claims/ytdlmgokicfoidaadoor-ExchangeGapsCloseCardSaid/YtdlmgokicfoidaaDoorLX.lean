/-
  Contracts of the framework for exchange.unescape, strings.Split, strconv.Itoa; the rule for the loop over lines. No condition: lemmas.
-/
import Derived.Test.YtdlmgokicfoidaaDoorLs32
import Derived.Test.YtdlmgokicfoidaaDoorBA
import Derived.Lib.ItoaLen
namespace Go.LS
open Go.Proofs Go.RowKit Go.Sort
set_option linter.all false
section
variable {P : Program}
/-- A function that reads what may be seen, lays new blocks, and hands back pure values. -/
theorem callOK_read {f : FuncId} {fn : Func} {c : Code} (hf : P.funcs[f]? = some fn) (hb : fn.body = some c) (hname : (fn.name == "runtime.NumGoroutine") = false) {args rets : List LV}
    (hc : ∀ (w : World) (S : Seen) (vs : Array Value), TabOK w [] → (∀ b o, S b o → b < w.heap.size) → RepLs w S (fun _ => none) (fun _ => none) vs.toList args →
      Calls P f vs w fun e w' => ∃ v S', e = .returned v ∧ Below w.heap.size w w' ∧ (∀ b o, S b o → S' b o) ∧ (∀ b o, S' b o → S b o ∨ (w.heap.size ≤ b ∧ b < w'.heap.size)) ∧ RepR w' S' (fun _ => none) (fun _ => none) v rets) : CallOK P f args [] rets [] := by
  intro w vs S ρ B hm hrs
  have hH : heapOf [] = (fun _ => none) := by funext k; simp [heapOf]
  have hH' : heapOf' [] = (fun _ => none) := by funext k; simp [heapOf']
  have hρ : ρ = fun _ => none := by funext k; exact hm.dom k (by rw [hH])
  subst hρ
  rw [hH] at hrs hm
  unfold CallF
  rw [run_callFunc hf hb hname]
  refine (hc w S vs hm.tab.nil (fun b o h => (hm.sep b o h).1) hrs).mono ?_
  rintro e w' ⟨v, S', rfl, h1, h2, h3, h4⟩
  have g : Grow w w' S S' := ⟨h1.size, h1.block, h2, h3, ⟨h1.os, h1.tape, h1.output⟩⟩
  rw [hH']
  exact ⟨v, S', fun _ => none, rfl, hm.grow g, h2, fun b o h => (h3 b o h).imp id And.left, fun _ _ => rfl, (fun _ _ _ hk => by cases hk), h4⟩
/-- .. two plain results, nothing seen anew -/
theorem callOK_read2 {f : FuncId} {fn : Func} {c : Code} (hf : P.funcs[f]? = some fn) (hb : fn.body = some c) (hname : (fn.name == "runtime.NumGoroutine") = false) {args : List LV} {a b : Value} (ha : plain a = true) (hb' : plain b = true)
    (hc : ∀ (w : World) (S : Seen) (vs : Array Value), TabOK w [] → (∀ b o, S b o → b < w.heap.size) → RepLs w S (fun _ => none) (fun _ => none) vs.toList args →
      Calls P f vs w fun e w' => e = .returned (.tuple #[a, b]) ∧ Below w.heap.size w w') : CallOK P f args [] [.one (.p (.val a)), .one (.p (.val b))] [] :=
  callOK_read hf hb hname fun w S vs ht hs hr => (hc w S vs ht hs hr).mono (by
    rintro e w' ⟨rfl, h⟩
    exact ⟨_, S, rfl, h, fun _ _ h => h, fun _ _ h => .inl h, ⟨_, rfl, repLs_cons (.p (.val _ ha)) (repLs_cons (.p (.val _ hb')) repLs_nil)⟩⟩)
end
theorem tabOK_below {w w1 : World} (ht : TabOK w []) (h : Below w.heap.size w w1) : TabOK w1 [] := fun x hx => by
  obtain ⟨_, o, h1, h2⟩ := ht x hx
  exact ⟨by simp, o, (h.block _ (Array.getElem?_eq_some_iff.1 h1).1).trans h1, h2⟩
theorem repLs_below {w w1 : World} {S : Seen} {vs : List Value} {args : List LV} (h : Below w.heap.size w w1) (hs : ∀ b o, S b o → b < w.heap.size) (hn : args.flatMap refsL = []) (r : RepLs w S (fun _ => none) (fun _ => none) vs args) :
    RepLs w1 S (fun _ => none) (fun _ => none) vs args :=
  r.mono (fun b o hb => ⟨hb, h.cell (p := ⟨b, o, none⟩) (hs b o hb)⟩) (by rw [hn]; intro id hid; cases hid)
theorem calls_of_ok {P : Program} {f : FuncId} {fn : Func} {c : Code} (hf : P.funcs[f]? = some fn) (hb : fn.body = some c) (hname : (fn.name == "runtime.NumGoroutine") = false) {args : List LV} {r : Value} (ok : CallOK P f args [] [.one (.p (.val r))] [])
    (w : World) (S : Seen) (vs : Array Value) (ht : TabOK w []) (hs : ∀ b o, S b o → b < w.heap.size) (hr : RepLs w S (fun _ => none) (fun _ => none) vs.toList args) : Calls P f vs w fun e w' => e = .returned r ∧ Below w.heap.size w w' := by
  have hH : heapOf [] = (fun _ => none) := by funext k; simp [heapOf]
  have hm : Mem w [] w S (fun _ => none) (heapOf []) :=
    ⟨(fun id blk hb => by simp [heapOf] at hb), fun _ _ => rfl, (fun _ _ _ h => by cases h), (fun _ _ _ _ _ h => by cases h), fun b o h => ⟨hs b o h, (fun _ _ h => by cases h)⟩, Nat.le_refl _, fun _ _ _ => rfl, Calm.refl w, RowsKept.refl w, ht⟩
  have := ok w vs S (fun _ => none) [] hm (by rw [hH]; exact hr)
  unfold CallF at this
  rw [run_callFunc hf hb hname] at this
  refine Calls.mono this ?_
  rintro e w' ⟨v, S', ρ', rfl, hm', _, _, _, _, hv⟩
  refine ⟨by rw [repL_val (show RepL w' S' ρ' (heapOf' []) v (.one (.p (.val r))) from hv)], hm'.calm.1, hm'.calm.2.1, hm'.calm.2.2, hm'.size, fun k hk => hm'.frame k hk (by simp)⟩
theorem fieldsAt_of {w : World} {S : Seen} {v : Value} (hs : ∀ b o, S b o → b < w.heap.size) (fs : List Str) (r : RepP w S v (.sl 1 (fs.map encS))) : FieldsAt w v fs := by
  generalize hx : List.map encS fs = xs at r
  cases r with
  | slnil =>
    have : fs = [] := by simpa using hx
    subst this
    exact ⟨none, 0, rfl, fun j h => by simp at h⟩
  | sl b o n cap e f xs hn hcap he hm hl hc hr =>
    subst hx
    have hn' : fs.length = n := by simpa using hn
    subst hn'
    refine ⟨some ⟨b, o, none⟩, cap, rfl, fun j h => ⟨b, o, rfl, ?_, ?_⟩⟩
    · exact hs _ _ (hc j 0 h (by omega)).1
    · have h1 := (hc j 0 h (by omega)).2
      have h2 := hr j 0 (by simpa using h) (by simp [encS])
      simp only [List.getElem_map, encS, List.getElem_cons_zero] at h2
      have h3 : f j 0 = .string (bs fs[j]) := by generalize f j 0 = u at h2; cases h2; rfl
      rw [show o + (j * 1 + 0) = o + j by omega, h3] at h1
      exact h1
theorem rowsAt_of {w : World} {S : Seen} {v : Value} (hs : ∀ b o, S b o → b < w.heap.size) (rows : List (List Str)) (r : RepP w S v (.sl 1 (rows.map fun x => [.sl 1 (x.map encS)]))) : RowsAt w v rows := by
  generalize hx : (List.map (fun x => [PV.sl 1 (List.map encS x)]) rows) = xs at r
  cases r with
  | slnil =>
    have : rows = [] := by simpa using hx
    subst this
    exact ⟨none, 0, rfl, fun j h => by simp at h⟩
  | sl b o n cap e f xs hn hcap he hm hl hc hr =>
    subst hx
    have hn' : rows.length = n := by simpa using hn
    subst hn'
    refine ⟨some ⟨b, o, none⟩, cap, rfl, fun j h => ⟨b, o, f j 0, rfl, ?_, ?_, ?_⟩⟩
    · exact hs _ _ (hc j 0 h (by omega)).1
    · have h1 := (hc j 0 h (by omega)).2
      rw [show o + (j * 1 + 0) = o + j by omega] at h1
      exact h1
    · have h2 := hr j 0 (by simpa using h) (by simp)
      simp only [List.getElem_map, List.getElem_cons_zero] at h2
      exact fieldsAt_of hs _ h2
theorem itoa_len (n : Int) (h : -9223372036854775808 ≤ n ∧ n ≤ 9223372036854775807) : (Lib.itoa n).length ≤ 1000 := by
  unfold Lib.itoa
  split
  · rw [List.length_cons, Lib.decDigits_length]
    have := Lib.nDigits_le20 n.natAbs (by omega)
    omega
  · rw [Lib.decDigits_length]
    have := Lib.nDigits_le20 n.toNat (by omega)
    omega
theorem format_args {w : World} {S : Seen} {vs : Array Value} {kind : Str} {src num : Int} {rows : List (List Str)} (hs : ∀ b o, S b o → b < w.heap.size)
    (hr : RepLs w S (fun _ => none) (fun _ => none) vs.toList [.agg [.p (.val (.string (bs kind))), .p (pi src), .p (pi num), .p (.sl 1 (rows.map fun x => [.sl 1 (x.map encS)]))]]) :
    ∃ rv, vs = #[.agg #[.string (bs kind), .int .i64 src, .int .i64 num, rv]] ∧ RowsAt w rv rows := by
  obtain ⟨h1, h2⟩ := hr
  have hl : vs.toList.length = 1 := by simpa using h1
  have h0 := h2 0 (by omega) (by simp)
  obtain ⟨av, e1, e2, e3⟩ := h0
  have hla : av.toList.length = 4 := by simpa using e2
  have a0 := e3 0 (by omega) (by simp)
  have a1 := e3 1 (by omega) (by simp)
  have a2 := e3 2 (by omega) (by simp)
  have a3 := e3 3 (by omega) (by simp)
  obtain ⟨la⟩ := av
  match la, hla with
  | [x0, x1, x2, x3], _ =>
    have b0 : x0 = .string (bs kind) := repL_val a0
    have b1 : x1 = .int .i64 src := repL_val a1
    have b2 : x2 = .int .i64 num := repL_val a2
    have b3 : RepP w S x3 (.sl 1 (rows.map fun x => [.sl 1 (x.map encS)])) := by cases a3; assumption
    subst b0 b1 b2
    refine ⟨x3, ?_, rowsAt_of hs rows b3⟩
    obtain ⟨lv⟩ := vs
    match lv, hl with
    | [y], _ =>
      have : y = .agg #[.string (bs kind), .int .i64 src, .int .i64 num, x3] := e1
      rw [this]
theorem tab10 {w : World} (h : TabOK w []) : Lib.TabIs Tryd.prog w "internal/strconv.uint64pow10" .u64 Lib.pow10Tab := by
  obtain ⟨_, o, h1, t, fz, h2⟩ := h (0, isPow10) (by simp [knownTabs])
  have hg : Tryd.prog.globalNamed "internal/strconv.uint64pow10" = some 0 := by kernel_rfl
  have h1' : w.heap[0]? = some o := h1
  unfold Lib.TabIs World.var?
  rw [hg]
  simp only [Option.bind_some, h1', h2]
theorem tabMax {w : World} (h : TabOK w []) : ∃ m, w.cell? ⟨1, 0, none⟩ = some (.int .i64 m) := by
  obtain ⟨_, o, h1, m, t, fz, h2⟩ := h (1, isInt1) (by simp [knownTabs])
  have h1' : w.heap[1]? = some o := h1
  exact ⟨m, by simp [World.cell?, h1', h2]⟩
theorem below_grow (w : World) (k : Nat) (os : Array Obj) : Below w.heap.size w (grow (w.drewN k) os) :=
  ⟨rfl, rfl, rfl, (grow_frame w k os).1, (grow_frame w k os).2.1⟩
set_option maxRecDepth 100000 in
theorem ok_strconv_Itoa (x : Int) (r_ : Str) (H0 : strconv_Itoa x = some r_) : CallOK Tryd.prog 38 [.one (.p (pi x))] [] [.one (.p (.val (.string (bs r_))))] [] := by
  unfold strconv_Itoa at H0
  split at H0
  · rename_i hx
    obtain rfl := Option.some.inj H0
    refine callOK_grow Tryd.func38 rfl (by kernel_rfl) (args1 fun w S ρ h v r => repL_val r) rfl fun w ht => ?_
    refine (Tryd.strconv_Itoa x hx.1 hx.2 w (tab10 ht)).mono ?_
    rintro e w' ⟨rfl, k, os, rfl⟩
    exact ⟨rfl, grow_frame w k os⟩
  · cases H0
/-- exchange.unescape -/
def exchange_unescape (text : Str) : Option (Str × Bool) := if text.length ≤ 100000 then some (match unescP text with | none => ([], false) | some o => (o, true)) else none
set_option maxRecDepth 100000 in
theorem ok_exchange_unescape (text : Str) (r_ : Str × Bool) (H0 : exchange_unescape text = some r_) : CallOK Tryd.prog 66 [.one (.p (.val (.string (bs text))))] [] [.one (.p (.val (.string (bs r_.1)))), .one (.p (.val (.bool r_.2)))] [] := by
  unfold exchange_unescape at H0
  split at H0
  · rename_i hx
    obtain rfl := Option.some.inj H0
    refine callOK_read2 Tryd.func66 rfl (by kernel_rfl) rfl rfl fun w S vs ht hs hr => ?_
    have hv := args1 (l := .one (.p (.val (.string (bs text))))) (fun w S ρ h v r => repL_val r) w S _ _ _ hr
    have hvs : vs = #[.string (bs text)] := by apply Array.ext'; simpa using hv
    subst hvs
    refine (Tryd.unescape_walk (bs text) (by simpa [bs, ByteArray.size] using hx) w).mono ?_
    rintro e w' ⟨rfl, h⟩
    refine ⟨?_, h⟩
    have : (bs text).data.toList = text := bs_toList text
    rw [this]
    cases unescP text <;> rfl
  · cases H0
/-- strings.Split at a separator that is not empty -/
def splitL (s sep : Str) : List Str := Lib.splitK sep 0 (Lib.count s sep) s
def strings_Split (s sep : Str) : Option (List Str) := if s.length ≤ 100000 ∧ 1 ≤ sep.length ∧ sep.length ≤ 1000 then some (splitL s sep) else none
theorem bs_data (x : ByteArray) : bs x.data.toList = x := by
  cases x; simp [bs]
set_option maxRecDepth 100000 in
theorem ok_strings_Split (s sep : Str) (r_ : List Str) (H0 : strings_Split s sep = some r_) : CallOK Tryd.prog 64 [.one (.p (.val (.string (bs s)))), .one (.p (.val (.string (bs sep))))] [] [.one (.p (.sl 1 (List.map encS r_)))] [] := by
  unfold strings_Split at H0
  split at H0
  · rename_i hx
    obtain ⟨hx1, hx2, hx3⟩ := hx
    obtain rfl := Option.some.inj H0
    have z1 : (bs s).size = s.length := by simp [bs, ByteArray.size]
    have z2 : (bs sep).size = sep.length := by simp [bs, ByteArray.size]
    have d1 : (bs s).data.toList = s := bs_toList s
    have d2 : (bs sep).data.toList = sep := bs_toList sep
    refine callOK_read Tryd.func64 rfl (by kernel_rfl) fun w S vs ht hs hr => ?_
    have hv := args2 (l := .one (.p (.val (.string (bs s))))) (l' := .one (.p (.val (.string (bs sep))))) (fun w S ρ h v r => repL_val r) (fun w S ρ h v r => repL_val r) w S _ _ _ hr
    have hvs : vs = #[.string (bs s), .string (bs sep)] := by apply Array.ext'; simpa using hv
    subst hvs
    obtain ⟨m, hm⟩ := tabMax ht
    refine (Tryd.strings_Split (bs s) (bs sep) m w (by omega) hm (by omega)).mono ?_
    rintro e w' ⟨rfl, rfl⟩
    have hcount : Lib.countB (bs s) (bs sep) = Lib.count s sep := by show Lib.count _ _ = _; rw [d1, d2]
    have hlen := Lib.splitB_all (bs sep) (by omega) 0 _ (bs s) rfl
    have hdat := Lib.splitB_data (bs sep) 0 (Lib.countB (bs s) (bs sep)) (bs s)
    rw [d1, d2, hcount] at hdat
    have hcl := Lib.countB_le (bs sep) (by omega) _ (bs s) (Nat.le_refl _)
    rw [hcount] at hlen hcl ⊢
    generalize hL : Lib.splitB (bs sep) 0 (Lib.count s sep) (bs s) = L at hlen hdat ⊢
    refine ⟨_, fun b o => S b o ∨ b = w.heap.size, rfl, (Below.refl _ w).alloc (Nat.le_refl _) _, fun b o h => .inl h, fun b o h => h.imp id (fun h => by subst h; exact ⟨Nat.le_refl _, by simp⟩), ?_⟩
    show RepC _ _ _ _ _ _
    refine .p ?_
    unfold splitL
    rw [← hdat]
    refine .sl w.heap.size 0 _ _ 1 (fun i _ => .string (L.getD i default)) _ (by simpa using hlen) (Nat.le_refl _) (Nat.le_refl _) (by unfold huge; omega) (fun x hx => ?_) (fun i j hi hj => ⟨.inr rfl, ?_⟩) (fun i j hi hj => ?_)
    · obtain ⟨y, _, rfl⟩ := List.mem_map.1 hx; rfl
    · have hj0 : j = 0 := by omega
      subst hj0
      rw [World.cell?_alloc_new]
      have hi' : i < L.length := by omega
      simp [hi', List.getD]
    · have hj0 : j = 0 := by
        simp [encS] at hj; exact hj
      subst hj0
      have hi' : i < L.length := by simpa using hi
      simp only [List.getElem_map, encS, List.getElem_cons_zero]
      rw [bs_data, show L.getD i default = L[i] by simp [List.getD, hi']]
      exact .val _ rfl
  · cases H0
end Go.LS
namespace Go.LS
open Go.Proofs Go.RowKit Go.Sort
set_option linter.all false
theorem arr117 (T : Array Value) (h : T.size = 117) : T = #[(T.getD 0 undef), (T.getD 1 undef), (T.getD 2 undef), (T.getD 3 undef), (T.getD 4 undef), (T.getD 5 undef), (T.getD 6 undef), (T.getD 7 undef), (T.getD 8 undef), (T.getD 9 undef), (T.getD 10 undef), (T.getD 11 undef), (T.getD 12 undef), (T.getD 13 undef), (T.getD 14 undef), (T.getD 15 undef), (T.getD 16 undef), (T.getD 17 undef), (T.getD 18 undef), (T.getD 19 undef), (T.getD 20 undef), (T.getD 21 undef), (T.getD 22 undef), (T.getD 23 undef), (T.getD 24 undef), (T.getD 25 undef), (T.getD 26 undef), (T.getD 27 undef), (T.getD 28 undef), (T.getD 29 undef), (T.getD 30 undef), (T.getD 31 undef), (T.getD 32 undef), (T.getD 33 undef), (T.getD 34 undef), (T.getD 35 undef), (T.getD 36 undef), (T.getD 37 undef), (T.getD 38 undef), (T.getD 39 undef), (T.getD 40 undef), (T.getD 41 undef), (T.getD 42 undef), (T.getD 43 undef), (T.getD 44 undef), (T.getD 45 undef), (T.getD 46 undef), (T.getD 47 undef), (T.getD 48 undef), (T.getD 49 undef), (T.getD 50 undef), (T.getD 51 undef), (T.getD 52 undef), (T.getD 53 undef), (T.getD 54 undef), (T.getD 55 undef), (T.getD 56 undef), (T.getD 57 undef), (T.getD 58 undef), (T.getD 59 undef), (T.getD 60 undef), (T.getD 61 undef), (T.getD 62 undef), (T.getD 63 undef), (T.getD 64 undef), (T.getD 65 undef), (T.getD 66 undef), (T.getD 67 undef), (T.getD 68 undef), (T.getD 69 undef), (T.getD 70 undef), (T.getD 71 undef), (T.getD 72 undef), (T.getD 73 undef), (T.getD 74 undef), (T.getD 75 undef), (T.getD 76 undef), (T.getD 77 undef), (T.getD 78 undef), (T.getD 79 undef), (T.getD 80 undef), (T.getD 81 undef), (T.getD 82 undef), (T.getD 83 undef), (T.getD 84 undef), (T.getD 85 undef), (T.getD 86 undef), (T.getD 87 undef), (T.getD 88 undef), (T.getD 89 undef), (T.getD 90 undef), (T.getD 91 undef), (T.getD 92 undef), (T.getD 93 undef), (T.getD 94 undef), (T.getD 95 undef), (T.getD 96 undef), (T.getD 97 undef), (T.getD 98 undef), (T.getD 99 undef), (T.getD 100 undef), (T.getD 101 undef), (T.getD 102 undef), (T.getD 103 undef), (T.getD 104 undef), (T.getD 105 undef), (T.getD 106 undef), (T.getD 107 undef), (T.getD 108 undef), (T.getD 109 undef), (T.getD 110 undef), (T.getD 111 undef), (T.getD 112 undef), (T.getD 113 undef), (T.getD 114 undef), (T.getD 115 undef), (T.getD 116 undef)] := by
  apply Array.ext
  · simp [h]
  · intro i h1 h2
    have h3 : i < 117 := by omega
    have h4 : T[i] = T.getD i undef := by simp [Array.getD, h1]
    rw [h4]
    clear h4 h1
    match i, h3 with
    | 0, _ => rfl
    | 1, _ => rfl
    | 2, _ => rfl
    | 3, _ => rfl
    | 4, _ => rfl
    | 5, _ => rfl
    | 6, _ => rfl
    | 7, _ => rfl
    | 8, _ => rfl
    | 9, _ => rfl
    | 10, _ => rfl
    | 11, _ => rfl
    | 12, _ => rfl
    | 13, _ => rfl
    | 14, _ => rfl
    | 15, _ => rfl
    | 16, _ => rfl
    | 17, _ => rfl
    | 18, _ => rfl
    | 19, _ => rfl
    | 20, _ => rfl
    | 21, _ => rfl
    | 22, _ => rfl
    | 23, _ => rfl
    | 24, _ => rfl
    | 25, _ => rfl
    | 26, _ => rfl
    | 27, _ => rfl
    | 28, _ => rfl
    | 29, _ => rfl
    | 30, _ => rfl
    | 31, _ => rfl
    | 32, _ => rfl
    | 33, _ => rfl
    | 34, _ => rfl
    | 35, _ => rfl
    | 36, _ => rfl
    | 37, _ => rfl
    | 38, _ => rfl
    | 39, _ => rfl
    | 40, _ => rfl
    | 41, _ => rfl
    | 42, _ => rfl
    | 43, _ => rfl
    | 44, _ => rfl
    | 45, _ => rfl
    | 46, _ => rfl
    | 47, _ => rfl
    | 48, _ => rfl
    | 49, _ => rfl
    | 50, _ => rfl
    | 51, _ => rfl
    | 52, _ => rfl
    | 53, _ => rfl
    | 54, _ => rfl
    | 55, _ => rfl
    | 56, _ => rfl
    | 57, _ => rfl
    | 58, _ => rfl
    | 59, _ => rfl
    | 60, _ => rfl
    | 61, _ => rfl
    | 62, _ => rfl
    | 63, _ => rfl
    | 64, _ => rfl
    | 65, _ => rfl
    | 66, _ => rfl
    | 67, _ => rfl
    | 68, _ => rfl
    | 69, _ => rfl
    | 70, _ => rfl
    | 71, _ => rfl
    | 72, _ => rfl
    | 73, _ => rfl
    | 74, _ => rfl
    | 75, _ => rfl
    | 76, _ => rfl
    | 77, _ => rfl
    | 78, _ => rfl
    | 79, _ => rfl
    | 80, _ => rfl
    | 81, _ => rfl
    | 82, _ => rfl
    | 83, _ => rfl
    | 84, _ => rfl
    | 85, _ => rfl
    | 86, _ => rfl
    | 87, _ => rfl
    | 88, _ => rfl
    | 89, _ => rfl
    | 90, _ => rfl
    | 91, _ => rfl
    | 92, _ => rfl
    | 93, _ => rfl
    | 94, _ => rfl
    | 95, _ => rfl
    | 96, _ => rfl
    | 97, _ => rfl
    | 98, _ => rfl
    | 99, _ => rfl
    | 100, _ => rfl
    | 101, _ => rfl
    | 102, _ => rfl
    | 103, _ => rfl
    | 104, _ => rfl
    | 105, _ => rfl
    | 106, _ => rfl
    | 107, _ => rfl
    | 108, _ => rfl
    | 109, _ => rfl
    | 110, _ => rfl
    | 111, _ => rfl
    | 112, _ => rfl
    | 113, _ => rfl
    | 114, _ => rfl
    | 115, _ => rfl
    | 116, _ => rfl
    | n + 117, h => exact absurd h (by omega)
set_option maxRecDepth 100000 in
theorem set117 (T : Array Value) (h : T.size = 117) (p q r : Value) : ((T.setIfInBounds 31 p).setIfInBounds 32 q).setIfInBounds 4 r = #[(T.getD 0 undef), (T.getD 1 undef), (T.getD 2 undef), (T.getD 3 undef), r, (T.getD 5 undef), (T.getD 6 undef), (T.getD 7 undef), (T.getD 8 undef), (T.getD 9 undef), (T.getD 10 undef), (T.getD 11 undef), (T.getD 12 undef), (T.getD 13 undef), (T.getD 14 undef), (T.getD 15 undef), (T.getD 16 undef), (T.getD 17 undef), (T.getD 18 undef), (T.getD 19 undef), (T.getD 20 undef), (T.getD 21 undef), (T.getD 22 undef), (T.getD 23 undef), (T.getD 24 undef), (T.getD 25 undef), (T.getD 26 undef), (T.getD 27 undef), (T.getD 28 undef), (T.getD 29 undef), (T.getD 30 undef), p, q, (T.getD 33 undef), (T.getD 34 undef), (T.getD 35 undef), (T.getD 36 undef), (T.getD 37 undef), (T.getD 38 undef), (T.getD 39 undef), (T.getD 40 undef), (T.getD 41 undef), (T.getD 42 undef), (T.getD 43 undef), (T.getD 44 undef), (T.getD 45 undef), (T.getD 46 undef), (T.getD 47 undef), (T.getD 48 undef), (T.getD 49 undef), (T.getD 50 undef), (T.getD 51 undef), (T.getD 52 undef), (T.getD 53 undef), (T.getD 54 undef), (T.getD 55 undef), (T.getD 56 undef), (T.getD 57 undef), (T.getD 58 undef), (T.getD 59 undef), (T.getD 60 undef), (T.getD 61 undef), (T.getD 62 undef), (T.getD 63 undef), (T.getD 64 undef), (T.getD 65 undef), (T.getD 66 undef), (T.getD 67 undef), (T.getD 68 undef), (T.getD 69 undef), (T.getD 70 undef), (T.getD 71 undef), (T.getD 72 undef), (T.getD 73 undef), (T.getD 74 undef), (T.getD 75 undef), (T.getD 76 undef), (T.getD 77 undef), (T.getD 78 undef), (T.getD 79 undef), (T.getD 80 undef), (T.getD 81 undef), (T.getD 82 undef), (T.getD 83 undef), (T.getD 84 undef), (T.getD 85 undef), (T.getD 86 undef), (T.getD 87 undef), (T.getD 88 undef), (T.getD 89 undef), (T.getD 90 undef), (T.getD 91 undef), (T.getD 92 undef), (T.getD 93 undef), (T.getD 94 undef), (T.getD 95 undef), (T.getD 96 undef), (T.getD 97 undef), (T.getD 98 undef), (T.getD 99 undef), (T.getD 100 undef), (T.getD 101 undef), (T.getD 102 undef), (T.getD 103 undef), (T.getD 104 undef), (T.getD 105 undef), (T.getD 106 undef), (T.getD 107 undef), (T.getD 108 undef), (T.getD 109 undef), (T.getD 110 undef), (T.getD 111 undef), (T.getD 112 undef), (T.getD 113 undef), (T.getD 114 undef), (T.getD 115 undef), (T.getD 116 undef)] := by
  apply Array.ext
  · simp [h]
  · intro i h1 h2
    have h3 : i < 117 := by simpa [h] using h1
    rw [Array.getElem_setIfInBounds (by simpa [h] using h3), Array.getElem_setIfInBounds (by simpa [h] using h3), Array.getElem_setIfInBounds (by omega)]
    have h4 : T[i]'(by omega) = T.getD i undef := by simp [Array.getD, h, h3]
    rw [h4]
    clear h4 h1
    match i, h3 with
    | 0, _ => rfl
    | 1, _ => rfl
    | 2, _ => rfl
    | 3, _ => rfl
    | 4, _ => rfl
    | 5, _ => rfl
    | 6, _ => rfl
    | 7, _ => rfl
    | 8, _ => rfl
    | 9, _ => rfl
    | 10, _ => rfl
    | 11, _ => rfl
    | 12, _ => rfl
    | 13, _ => rfl
    | 14, _ => rfl
    | 15, _ => rfl
    | 16, _ => rfl
    | 17, _ => rfl
    | 18, _ => rfl
    | 19, _ => rfl
    | 20, _ => rfl
    | 21, _ => rfl
    | 22, _ => rfl
    | 23, _ => rfl
    | 24, _ => rfl
    | 25, _ => rfl
    | 26, _ => rfl
    | 27, _ => rfl
    | 28, _ => rfl
    | 29, _ => rfl
    | 30, _ => rfl
    | 31, _ => rfl
    | 32, _ => rfl
    | 33, _ => rfl
    | 34, _ => rfl
    | 35, _ => rfl
    | 36, _ => rfl
    | 37, _ => rfl
    | 38, _ => rfl
    | 39, _ => rfl
    | 40, _ => rfl
    | 41, _ => rfl
    | 42, _ => rfl
    | 43, _ => rfl
    | 44, _ => rfl
    | 45, _ => rfl
    | 46, _ => rfl
    | 47, _ => rfl
    | 48, _ => rfl
    | 49, _ => rfl
    | 50, _ => rfl
    | 51, _ => rfl
    | 52, _ => rfl
    | 53, _ => rfl
    | 54, _ => rfl
    | 55, _ => rfl
    | 56, _ => rfl
    | 57, _ => rfl
    | 58, _ => rfl
    | 59, _ => rfl
    | 60, _ => rfl
    | 61, _ => rfl
    | 62, _ => rfl
    | 63, _ => rfl
    | 64, _ => rfl
    | 65, _ => rfl
    | 66, _ => rfl
    | 67, _ => rfl
    | 68, _ => rfl
    | 69, _ => rfl
    | 70, _ => rfl
    | 71, _ => rfl
    | 72, _ => rfl
    | 73, _ => rfl
    | 74, _ => rfl
    | 75, _ => rfl
    | 76, _ => rfl
    | 77, _ => rfl
    | 78, _ => rfl
    | 79, _ => rfl
    | 80, _ => rfl
    | 81, _ => rfl
    | 82, _ => rfl
    | 83, _ => rfl
    | 84, _ => rfl
    | 85, _ => rfl
    | 86, _ => rfl
    | 87, _ => rfl
    | 88, _ => rfl
    | 89, _ => rfl
    | 90, _ => rfl
    | 91, _ => rfl
    | 92, _ => rfl
    | 93, _ => rfl
    | 94, _ => rfl
    | 95, _ => rfl
    | 96, _ => rfl
    | 97, _ => rfl
    | 98, _ => rfl
    | 99, _ => rfl
    | 100, _ => rfl
    | 101, _ => rfl
    | 102, _ => rfl
    | 103, _ => rfl
    | 104, _ => rfl
    | 105, _ => rfl
    | 106, _ => rfl
    | 107, _ => rfl
    | 108, _ => rfl
    | 109, _ => rfl
    | 110, _ => rfl
    | 111, _ => rfl
    | 112, _ => rfl
    | 113, _ => rfl
    | 114, _ => rfl
    | 115, _ => rfl
    | 116, _ => rfl
    | n + 117, h => exact absurd h (by omega)
theorem lines_shows {W : World} {n0 : Nat} {v : Value} (ls : List Str) (h : W.ownsRow n0 9 1 v ls.length (ls.map fun x => .string ⟨x.toArray⟩)) (hn : ls.length ≤ 100000) (S : Seen) (hS : ∀ b o, v.ownBlock = some b → S b o) : RepP W S v (.sl 1 (List.map encS ls)) := by
  obtain ⟨h1, h2⟩ := h
  rcases h2 with ⟨rfl, h0⟩ | ⟨g, cap, cur, rfl, hb, hg, hc, hm, hsz, htk⟩
  · have : ls = [] := List.eq_nil_of_length_eq_zero h0
    subst this
    exact .slnil 1
  · refine .sl g 0 _ cap 1 (fun i _ => .string (bs (ls.getD i []))) _ (by simp) hc (Nat.le_refl _) (by unfold huge; omega) (fun x hx => ?_) (fun i j hi hj => ⟨hS _ _ rfl, ?_⟩) (fun i j hi hj => ?_)
    · obtain ⟨y, _, rfl⟩ := List.mem_map.1 hx; rfl
    · have hj0 : j = 0 := by omega
      subst hj0
      have h5 : cur.toList[i]? = some (.string (bs (ls.getD i []))) := by
        have : (cur.toList.take (ls.length * 1))[i]? = some (.string (bs (ls.getD i []))) := by
          rw [htk]; simp [hi, bs, List.getD]
        rw [List.getElem?_take] at this
        split at this
        · exact this
        · cases this
      simp only [World.cell?, hg]
      simpa using h5
    · have hj0 : j = 0 := by simp [encS] at hj; exact hj
      subst hj0
      have hi' : i < ls.length := by simpa using hi
      simp only [List.getElem_map, encS, List.getElem_cons_zero]
      rw [show ls.getD i [] = ls[i] by simp [List.getD, hi']]
      exact .val _ rfl
theorem row_not {w0 w : World} {B : List Nat} {S : Seen} {ρ : Place} {h : Heap} (m : Mem w0 B w S ρ h) {D : Nat} {x : Option (List Deferred)} (hD : w.heap[D]? = some (.deferred x)) (id o : Nat) : ρ id ≠ some (D, o) := fun hp => by
  cases hb : h id with
  | none => rw [m.dom id hb] at hp; cases hp
  | some blk =>
    have r := m.blocks id blk hb
    cases blk with
    | var cs =>
      obtain ⟨b, c, el, h1, h2, _⟩ := r
      rw [h1] at hp; cases hp
      unfold Row at h2; rw [hD] at h2; cases h2
    | arr e xs =>
      obtain ⟨_, _, _, h4⟩ := r
      rcases h4 with ⟨h4, _⟩ | ⟨b, o', c, el, h1, h2, _⟩
      · rw [h4] at hp; cases hp
      · rw [h1] at hp; cases hp
        unfold Row at h2; rw [hD] at h2; cases h2
theorem Inv.mark {w0 w w1 : World} {B : List Nat} {S0 : Seen} {R0 : Home} {st : LState} {t : Array Value} {ds : List Deferred} {D : Nat} (i : Inv w0 B S0 R0 st { tmps := t, defers := ds } w) (h0 : w0.heap.size ≤ D) (hD : w.heap[D]? = some (.deferred (some []))) (hn : ({ target := .collected D, args := #[] } : Deferred) ∉ ds) :
    Inv w0 B S0 R0 st { tmps := t, defers := { target := .collected D, args := #[] } :: ds } w := by
  obtain ⟨S, ρ, i, h1, h2, h3⟩ := i
  refine ⟨S, ρ, ⟨i.mem, i.tmps, ⟨List.nodup_cons.2 ⟨hn, i.defers.1⟩, fun d hd => ?_⟩, i.slots⟩, h1, h2, h3⟩
  rcases List.mem_cons.1 hd with rfl | hd
  · exact ⟨D, rfl, h0, hD, fun id o => row_not i.mem hD id o⟩
  · exact i.defers.2 d hd
set_option maxRecDepth 100000 in
set_option maxHeartbeats 4000000 in
theorem lok_lines {V : List Nat} {st st' : LState} {Q : Exit → LState → Prop} {s : Str} {L : List Str} {c : Code} (hs : s.length ≤ 100000) (hL : linesL s = L) (hn : st.n = 117) (h0 : st.s 0 = .x (.one (.p (.val (.string (bs s)))))) (h4 : st.s 4 = .x (.one (.ptr 104 0))) (hA : st.h 104 = some (.var [.p .nil]))
    (hi : Imp V (bindB (putV (putV st (some 31) .dead) (some 32) .dead) 104 (.var [.p (.sl 1 (List.map encS L))]) 4 (.one (.ptr 104 0))) st') (h : LOK Tryd.prog V c st' Q) : LOK Tryd.prog V (.seq linesCode c) st Q := by
  subst hL
  intro w0 B S0 R0 a w hV ⟨S, ρ, i, hS, hS', hR⟩
  have key : linesCode.wp Tryd.prog (fun e a' w' => e = .normal ∧ Inv w0 B S0 R0 (bindB (putV (putV st (some 31) .dead) (some 32) .dead) 104 (.var [.p (.sl 1 (List.map encS (linesL s)))]) 4 (.one (.ptr 104 0))) a' w') a w := by
    obtain ⟨T, ds⟩ := a
    have hT : T.size = 117 := i.tmps.trans hn
    have v0 : T.getD 0 undef = .string ⟨s.toArray⟩ := by
      have := i.slots 0; rw [h0] at this; exact repL_val this
    have v4 : ∃ b, ρ 104 = some (b, 0) ∧ T.getD 4 undef = .pointer (some ⟨b, 0, none⟩) ∧ ∃ el, Boxed w b el (.slice none 0 0) := by
      have := i.slots 4; rw [h4] at this
      obtain ⟨b, o, hp, hv⟩ := repC_ptr this
      obtain ⟨b', cc, el, hp', hrow, hc1, hc2⟩ := i.mem.blocks 104 _ hA
      rw [hp] at hp'
      obtain ⟨rfl, rfl⟩ : b = b' ∧ o = 0 := by simpa using hp'
      refine ⟨b, hp, by simpa using hv, el, ?_⟩
      have hl : cc.toList.length = 1 := by simpa using hc1
      obtain ⟨lc⟩ := cc
      match lc, hl with
      | [x], _ =>
        have := hc2 0 (by simp) (by simp)
        have hx : x = .slice none 0 0 := by
          have h : RepC w S ρ st.h x (.p .nil) := this
          cases h with
          | p r => cases r with
            | nil => rfl
        subst hx
        exact hrow
    obtain ⟨bA, hpA, hvA, el, hbox⟩ := v4
    have hact : (⟨T, ds⟩ : Act) = ⟨#[.string ⟨s.toArray⟩, (T.getD 1 undef), (T.getD 2 undef), (T.getD 3 undef), .pointer (some ⟨bA, 0, none⟩), (T.getD 5 undef), (T.getD 6 undef), (T.getD 7 undef), (T.getD 8 undef), (T.getD 9 undef), (T.getD 10 undef), (T.getD 11 undef), (T.getD 12 undef), (T.getD 13 undef), (T.getD 14 undef), (T.getD 15 undef), (T.getD 16 undef), (T.getD 17 undef), (T.getD 18 undef), (T.getD 19 undef), (T.getD 20 undef), (T.getD 21 undef), (T.getD 22 undef), (T.getD 23 undef), (T.getD 24 undef), (T.getD 25 undef), (T.getD 26 undef), (T.getD 27 undef), (T.getD 28 undef), (T.getD 29 undef), (T.getD 30 undef), (T.getD 31 undef), (T.getD 32 undef), (T.getD 33 undef), (T.getD 34 undef), (T.getD 35 undef), (T.getD 36 undef), (T.getD 37 undef), (T.getD 38 undef), (T.getD 39 undef), (T.getD 40 undef), (T.getD 41 undef), (T.getD 42 undef), (T.getD 43 undef), (T.getD 44 undef), (T.getD 45 undef), (T.getD 46 undef), (T.getD 47 undef), (T.getD 48 undef), (T.getD 49 undef), (T.getD 50 undef), (T.getD 51 undef), (T.getD 52 undef), (T.getD 53 undef), (T.getD 54 undef), (T.getD 55 undef), (T.getD 56 undef), (T.getD 57 undef), (T.getD 58 undef), (T.getD 59 undef), (T.getD 60 undef), (T.getD 61 undef), (T.getD 62 undef), (T.getD 63 undef), (T.getD 64 undef), (T.getD 65 undef), (T.getD 66 undef), (T.getD 67 undef), (T.getD 68 undef), (T.getD 69 undef), (T.getD 70 undef), (T.getD 71 undef), (T.getD 72 undef), (T.getD 73 undef), (T.getD 74 undef), (T.getD 75 undef), (T.getD 76 undef), (T.getD 77 undef), (T.getD 78 undef), (T.getD 79 undef), (T.getD 80 undef), (T.getD 81 undef), (T.getD 82 undef), (T.getD 83 undef), (T.getD 84 undef), (T.getD 85 undef), (T.getD 86 undef), (T.getD 87 undef), (T.getD 88 undef), (T.getD 89 undef), (T.getD 90 undef), (T.getD 91 undef), (T.getD 92 undef), (T.getD 93 undef), (T.getD 94 undef), (T.getD 95 undef), (T.getD 96 undef), (T.getD 97 undef), (T.getD 98 undef), (T.getD 99 undef), (T.getD 100 undef), (T.getD 101 undef), (T.getD 102 undef), (T.getD 103 undef), (T.getD 104 undef), (T.getD 105 undef), (T.getD 106 undef), (T.getD 107 undef), (T.getD 108 undef), (T.getD 109 undef), (T.getD 110 undef), (T.getD 111 undef), (T.getD 112 undef), (T.getD 113 undef), (T.getD 114 undef), (T.getD 115 undef), (T.getD 116 undef)], ds⟩ := by
      have := arr117 T hT
      rw [v0, hvA] at this
      exact congrArg (fun t => (⟨t, ds⟩ : Act)) this
    rw [hact]
    refine wpIn_wide.1 (Tryd.lines_code (T.getD 1 undef) (T.getD 2 undef) (T.getD 3 undef) (T.getD 5 undef) (T.getD 6 undef) (T.getD 7 undef) (T.getD 8 undef) (T.getD 9 undef) (T.getD 10 undef) (T.getD 11 undef) (T.getD 12 undef) (T.getD 13 undef) (T.getD 14 undef) (T.getD 15 undef) (T.getD 16 undef) (T.getD 17 undef) (T.getD 18 undef) (T.getD 19 undef) (T.getD 20 undef) (T.getD 21 undef) (T.getD 22 undef) (T.getD 23 undef) (T.getD 24 undef) (T.getD 25 undef) (T.getD 26 undef) (T.getD 27 undef) (T.getD 28 undef) (T.getD 29 undef) (T.getD 30 undef) (T.getD 31 undef) (T.getD 32 undef) (T.getD 33 undef) (T.getD 34 undef) (T.getD 35 undef) (T.getD 36 undef) (T.getD 37 undef) (T.getD 38 undef) (T.getD 39 undef) (T.getD 40 undef) (T.getD 41 undef) (T.getD 42 undef) (T.getD 43 undef) (T.getD 44 undef) (T.getD 45 undef) (T.getD 46 undef) (T.getD 47 undef) (T.getD 48 undef) (T.getD 49 undef) (T.getD 50 undef) (T.getD 51 undef) (T.getD 52 undef) (T.getD 53 undef) (T.getD 54 undef) (T.getD 55 undef) (T.getD 56 undef) (T.getD 57 undef) (T.getD 58 undef) (T.getD 59 undef) (T.getD 60 undef) (T.getD 61 undef) (T.getD 62 undef) (T.getD 63 undef) (T.getD 64 undef) (T.getD 65 undef) (T.getD 66 undef) (T.getD 67 undef) (T.getD 68 undef) (T.getD 69 undef) (T.getD 70 undef) (T.getD 71 undef) (T.getD 72 undef) (T.getD 73 undef) (T.getD 74 undef) (T.getD 75 undef) (T.getD 76 undef) (T.getD 77 undef) (T.getD 78 undef) (T.getD 79 undef) (T.getD 80 undef) (T.getD 81 undef) (T.getD 82 undef) (T.getD 83 undef) (T.getD 84 undef) (T.getD 85 undef) (T.getD 86 undef) (T.getD 87 undef) (T.getD 88 undef) (T.getD 89 undef) (T.getD 90 undef) (T.getD 91 undef) (T.getD 92 undef) (T.getD 93 undef) (T.getD 94 undef) (T.getD 95 undef) (T.getD 96 undef) (T.getD 97 undef) (T.getD 98 undef) (T.getD 99 undef) (T.getD 100 undef) (T.getD 101 undef) (T.getD 102 undef) (T.getD 103 undef) (T.getD 104 undef) (T.getD 105 undef) (T.getD 106 undef) (T.getD 107 undef) (T.getD 108 undef) (T.getD 109 undef) (T.getD 110 undef) (T.getD 111 undef) (T.getD 112 undef) (T.getD 113 undef) (T.getD 114 undef) (T.getD 115 undef) (T.getD 116 undef) ds w s hs bA el hbox _ ?_)
    intro W D hL hD hDm
    refine ⟨rfl, ?_⟩
    obtain ⟨v, hv, hrow⟩ := hL.box
    have hAl := hbox.lt
    have hlen := linesL_len s
    have i1 := i.putQ (Grow.refl w S) (d := some 31) (v := .string ⟨s.toArray⟩) (s := .dead) (show 31 < st.n by omega) trivial
    have i2 := i1.putQ (Grow.refl w S) (d := some 32) (v := .func (.func 62) #[] #[.pointer (some ⟨w.heap.size, 0, none⟩)]) (s := .dead) (show 32 < st.n by omega) trivial
    let S' : Seen := fun b o => S b o ∨ v.ownBlock = some b
    have tn : Turn w W S S' ρ 104 (some (bA, 0)) := by
      refine ⟨by have := hL.size; omega, fun b hb hb2 => hL.old b hb (fun e => hb2 0 (e ▸ hpA)), fun b o h => .inl h, fun b o h => h.imp id (fun h => by have := hrow.lt b h; omega), fun b o h => ?_, ⟨hL.os, hL.tape, hL.output⟩, fun b cc e hr => ?_⟩
      · cases h
        refine ⟨by have := hL.size; omega, .inr ⟨0, hpA⟩, fun o' h' => ?_⟩
        rcases h' with h' | h'
        · exact (i.mem.sep bA o' h').2 104 0 hpA
        · have := (hrow.lt bA h').1; omega
      · by_cases e1 : b = bA
        · subst e1
          unfold Row at hr
          rw [show w.heap[b]? = _ from hbox] at hr
          cases hr
          exact ⟨_, hv, rfl⟩
        · refine ⟨cc, ?_, rfl⟩
          unfold Row at hr ⊢
          rw [hL.old b (Array.getElem?_eq_some_iff.1 hr).1 e1]; exact hr
    have i3 := Inv.bind i2 hS hS' hR (d := 4) (v := .pointer (some ⟨bA, 0, none⟩)) (l := .one (.ptr 104 0)) tn (show 4 < st.n by omega) (by omega)
      (blk := .var [.p (.sl 1 (List.map encS (linesL s)))])
      ⟨bA, #[v], el, by simp [upd], hv, rfl, fun k hk1 hk2 => by
        have : k = 0 := by simpa using hk1
        subst this
        exact .p (lines_shows _ hrow (by omega) S' (fun b o h => .inr h))⟩
      (show RepC _ _ _ _ _ _ from .ptr (b := bA) (o := 0) (off := 0) (show (if (104 : Nat) = 104 then some (bA, 0) else ρ 104) = some (bA, 0) by rfl))
    have i4 := Inv.mark (w1 := w) i3 (Nat.le_trans i.mem.size hD) hDm (fun hm => by
      obtain ⟨D', e, _, g1, _⟩ := i.defers.2 _ hm
      have : D = D' := by cases e; rfl
      subst this
      have := (Array.getElem?_eq_some_iff.1 g1).1
      omega)
    have he : #[.string ⟨s.toArray⟩, (T.getD 1 undef), (T.getD 2 undef), (T.getD 3 undef), .pointer (some ⟨bA, 0, none⟩), (T.getD 5 undef), (T.getD 6 undef), (T.getD 7 undef), (T.getD 8 undef), (T.getD 9 undef), (T.getD 10 undef), (T.getD 11 undef), (T.getD 12 undef), (T.getD 13 undef), (T.getD 14 undef), (T.getD 15 undef), (T.getD 16 undef), (T.getD 17 undef), (T.getD 18 undef), (T.getD 19 undef), (T.getD 20 undef), (T.getD 21 undef), (T.getD 22 undef), (T.getD 23 undef), (T.getD 24 undef), (T.getD 25 undef), (T.getD 26 undef), (T.getD 27 undef), (T.getD 28 undef), (T.getD 29 undef), (T.getD 30 undef), .string ⟨s.toArray⟩, .func (.func 62) #[] #[.pointer (some ⟨w.heap.size, 0, none⟩)], (T.getD 33 undef), (T.getD 34 undef), (T.getD 35 undef), (T.getD 36 undef), (T.getD 37 undef), (T.getD 38 undef), (T.getD 39 undef), (T.getD 40 undef), (T.getD 41 undef), (T.getD 42 undef), (T.getD 43 undef), (T.getD 44 undef), (T.getD 45 undef), (T.getD 46 undef), (T.getD 47 undef), (T.getD 48 undef), (T.getD 49 undef), (T.getD 50 undef), (T.getD 51 undef), (T.getD 52 undef), (T.getD 53 undef), (T.getD 54 undef), (T.getD 55 undef), (T.getD 56 undef), (T.getD 57 undef), (T.getD 58 undef), (T.getD 59 undef), (T.getD 60 undef), (T.getD 61 undef), (T.getD 62 undef), (T.getD 63 undef), (T.getD 64 undef), (T.getD 65 undef), (T.getD 66 undef), (T.getD 67 undef), (T.getD 68 undef), (T.getD 69 undef), (T.getD 70 undef), (T.getD 71 undef), (T.getD 72 undef), (T.getD 73 undef), (T.getD 74 undef), (T.getD 75 undef), (T.getD 76 undef), (T.getD 77 undef), (T.getD 78 undef), (T.getD 79 undef), (T.getD 80 undef), (T.getD 81 undef), (T.getD 82 undef), (T.getD 83 undef), (T.getD 84 undef), (T.getD 85 undef), (T.getD 86 undef), (T.getD 87 undef), (T.getD 88 undef), (T.getD 89 undef), (T.getD 90 undef), (T.getD 91 undef), (T.getD 92 undef), (T.getD 93 undef), (T.getD 94 undef), (T.getD 95 undef), (T.getD 96 undef), (T.getD 97 undef), (T.getD 98 undef), (T.getD 99 undef), (T.getD 100 undef), (T.getD 101 undef), (T.getD 102 undef), (T.getD 103 undef), (T.getD 104 undef), (T.getD 105 undef), (T.getD 106 undef), (T.getD 107 undef), (T.getD 108 undef), (T.getD 109 undef), (T.getD 110 undef), (T.getD 111 undef), (T.getD 112 undef), (T.getD 113 undef), (T.getD 114 undef), (T.getD 115 undef), (T.getD 116 undef)] = ((T.setIfInBounds 31 (.string ⟨s.toArray⟩)).setIfInBounds 32 (.func (.func 62) #[] #[.pointer (some ⟨w.heap.size, 0, none⟩)])).setIfInBounds 4 (.pointer (some ⟨bA, 0, none⟩)) := by
      rw [set117 T hT, v0]
    rw [he]
    exact i4
  exact wp_seq (wp_mono key fun e a' w' ⟨he, hI⟩ => by subst he; exact h w0 B S0 R0 a' w' hV (hi w0 B S0 R0 a' w' hV hI))
end Go.LS
