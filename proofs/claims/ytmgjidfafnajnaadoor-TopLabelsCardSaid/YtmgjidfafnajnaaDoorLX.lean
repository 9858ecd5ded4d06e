/-
  Contracts of the framework for rscode.Codeword, rscode.Decode, strip.marked, strip.Flip; from a walk that keeps what lies below to a contract.
  No condition: lemmas.
-/
import Derived.Test.YtmgjidfafnajnaaDoorLs32
import Derived.Test.YtmgjidfafnajnaaDoorBXD
import Derived.Test.YtmgjidfafnajnaaDoorBXE
namespace Go.LS
open Go.Proofs Go.RowKit Go.Sort
set_option linter.all false
section
variable {P : Program}
/-- A function that reads what may be seen, lays new blocks, and hands back pure values. -/
theorem callOK_read {f : FuncId} {fn : Func} {c : Go.Code} (hf : P.funcs[f]? = some fn) (hb : fn.body = some c) (hname : (fn.name == "runtime.NumGoroutine") = false) {args rets : List LV}
    (hc : ∀ (w : World) (S : Seen) (vs : Array Value), TabOK w [] → (∀ b o, S b o → b < w.heap.size) → RepLs w S (fun _ => none) (fun _ => none) vs.toList args →
      Calls P f vs w fun e w' => ∃ v S', e = .returned v ∧ Below w.heap.size w w' ∧ (∀ b o, S b o → S' b o) ∧ (∀ b o, S' b o → S b o ∨ (w.heap.size ≤ b ∧ b < w'.heap.size)) ∧ RepR w' S' (fun _ => none) (fun _ => none) v rets) : CallOK P f args [] rets [] := by
  intro w vs S ρ B hm hrs
  have hH : heapOf [] = (fun _ => none) := by funext k; simp [heapOf]
  have hH' : heapOf' [] = (fun _ => none) := by funext k; simp [heapOf']
  have hρ : ρ = fun _ => none := by funext k; exact hm.dom k (by rw [hH])
  subst hρ
  rw [hH] at hrs hm
  unfold CallF
  rw [run_callFunc hf hb hname]
  refine (hc w S vs hm.tab.nil (fun b o h => (hm.sep b o h).1) hrs).mono ?_
  rintro e w' ⟨v, S', rfl, h1, h2, h3, h4⟩
  have g : Grow w w' S S' := ⟨h1.size, h1.block, h2, h3, ⟨h1.os, h1.tape, h1.output⟩⟩
  rw [hH']
  exact ⟨v, S', fun _ => none, rfl, hm.grow g, h2, fun b o h => (h3 b o h).imp id And.left, fun _ _ => rfl, (fun _ _ _ hk => by cases hk), h4⟩
/-- .. two plain results, nothing seen anew -/
theorem callOK_read2 {f : FuncId} {fn : Func} {c : Go.Code} (hf : P.funcs[f]? = some fn) (hb : fn.body = some c) (hname : (fn.name == "runtime.NumGoroutine") = false) {args : List LV} {a b : Value} (ha : plain a = true) (hb' : plain b = true)
    (hc : ∀ (w : World) (S : Seen) (vs : Array Value), TabOK w [] → (∀ b o, S b o → b < w.heap.size) → RepLs w S (fun _ => none) (fun _ => none) vs.toList args →
      Calls P f vs w fun e w' => e = .returned (.tuple #[a, b]) ∧ Below w.heap.size w w') : CallOK P f args [] [.one (.p (.val a)), .one (.p (.val b))] [] :=
  callOK_read hf hb hname fun w S vs ht hs hr => (hc w S vs ht hs hr).mono (by
    rintro e w' ⟨rfl, h⟩
    exact ⟨_, S, rfl, h, fun _ _ h => h, fun _ _ h => .inl h, ⟨_, rfl, repLs_cons (.p (.val _ ha)) (repLs_cons (.p (.val _ hb')) repLs_nil)⟩⟩)
end
theorem tabOK_below {w w1 : World} (ht : TabOK w []) (h : Below w.heap.size w w1) : TabOK w1 [] := fun x hx => by
  obtain ⟨_, o, h1, h2⟩ := ht x hx
  exact ⟨by simp, o, (h.block _ (Array.getElem?_eq_some_iff.1 h1).1).trans h1, h2⟩
theorem repLs_below {w w1 : World} {S : Seen} {vs : List Value} {args : List LV} (h : Below w.heap.size w w1) (hs : ∀ b o, S b o → b < w.heap.size) (hn : args.flatMap refsL = []) (r : RepLs w S (fun _ => none) (fun _ => none) vs args) :
    RepLs w1 S (fun _ => none) (fun _ => none) vs args :=
  r.mono (fun b o hb => ⟨hb, h.cell (p := ⟨b, o, none⟩) (hs b o hb)⟩) (by rw [hn]; intro id hid; cases hid)
theorem calls_of_ok {P : Program} {f : FuncId} {fn : Func} {c : Go.Code} (hf : P.funcs[f]? = some fn) (hb : fn.body = some c) (hname : (fn.name == "runtime.NumGoroutine") = false) {args : List LV} {r : Value} (ok : CallOK P f args [] [.one (.p (.val r))] [])
    (w : World) (S : Seen) (vs : Array Value) (ht : TabOK w []) (hs : ∀ b o, S b o → b < w.heap.size) (hr : RepLs w S (fun _ => none) (fun _ => none) vs.toList args) : Calls P f vs w fun e w' => e = .returned r ∧ Below w.heap.size w w' := by
  have hH : heapOf [] = (fun _ => none) := by funext k; simp [heapOf]
  have hm : Mem w [] w S (fun _ => none) (heapOf []) :=
    ⟨(fun id blk hb => by simp [heapOf] at hb), fun _ _ => rfl, (fun _ _ _ h => by cases h), (fun _ _ _ _ _ h => by cases h), fun b o h => ⟨hs b o h, (fun _ _ h => by cases h)⟩, Nat.le_refl _, fun _ _ _ => rfl, Calm.refl w, RowsKept.refl w, ht⟩
  have := ok w vs S (fun _ => none) [] hm (by rw [hH]; exact hr)
  unfold CallF at this
  rw [run_callFunc hf hb hname] at this
  refine Calls.mono this ?_
  rintro e w' ⟨v, S', ρ', rfl, hm', _, _, _, _, hv⟩
  refine ⟨by rw [repL_val (show RepL w' S' ρ' (heapOf' []) v (.one (.p (.val r))) from hv)], hm'.calm.1, hm'.calm.2.1, hm'.calm.2.2, hm'.size, fun k hk => hm'.frame k hk (by simp)⟩
theorem sinceBelow {w w' : World} (h : w.Since w.heap.size w') : Below w.heap.size w w' := ⟨h.os, h.tape, h.output, h.size, h.block⟩
theorem tabsAt_of {w : World} (h : TabOK w []) : TabsAt w ∧ 2 ≤ w.heap.size := by
  obtain ⟨_, o, h1, t, fz, h2⟩ := h (0, isInts powT) (by simp [knownTabs])
  obtain ⟨_, o', h1', t', fz', h2'⟩ := h (1, isInts logT) (by simp [knownTabs])
  have h1 : w.heap[0]? = some o := h1
  have h1' : w.heap[1]? = some o' := h1'
  have key : ∀ (b : Nat) (l : List Int) (ty : TypeId) (f : Nat × Nat), w.heap[b]? = some (.cells (l.map fun z => Value.int .i64 z).toArray ty f) → ∀ k, k < l.length → w.cell? ⟨b, k, none⟩ = some (.int .i64 (l.getD k 0)) := by
    intro b l ty f hb k hk
    simp [World.cell?, hb, List.getD_eq_getElem?_getD, List.getElem?_eq_getElem hk]
  refine ⟨⟨fun k hk => key 0 powT t fz (by rw [h1, h2]) k hk, fun k hk => key 1 logT t' fz' (by rw [h1', h2']) k hk⟩, ?_⟩
  rcases Nat.lt_or_ge 1 w.heap.size with h | h
  · exact h
  · rw [Array.getElem?_eq_none h] at h1'; cases h1'
theorem ints_of {w : World} {S : Seen} {v : Value} (hs : ∀ b o, S b o → b < w.heap.size) (l : List Int) (hl : 0 < l.length) (r : RepP w S v (.sl 1 (l.map encI))) : ∃ b o cap, v = .slice (some ⟨b, o, none⟩) l.length cap ∧ b < w.heap.size ∧ IntsAt w b o l := by
  generalize hx : List.map encI l = xs at r
  cases r with
  | slnil =>
    have : l = [] := by simpa using hx
    subst this
    simp at hl
  | sl b o n cap e f xs hn hcap he hm hl2 hc hr =>
    subst hx
    have hn' : l.length = n := by simpa using hn
    subst hn'
    refine ⟨b, o, cap, rfl, hs _ _ (hc 0 0 hl (by omega)).1, fun i hi => ?_⟩
    have h1 := (hc i 0 hi (by omega)).2
    have h2 := hr i 0 (by simpa using hi) (by simp [encI])
    simp only [List.getElem_map, encI, List.getElem_cons_zero] at h2
    have h3 : f i 0 = .int .i64 l[i] := by generalize f i 0 = u at h2; cases h2; rfl
    rw [show o + (i * 1 + 0) = o + i by omega, h3] at h1
    rw [h1, List.getD_eq_getElem?_getD, List.getElem?_eq_getElem hi]; rfl
theorem repL_p {w : World} {S : Seen} {ρ : Place} {h : Heap} {v : Value} {x : PV} (r : RepL w S ρ h v (.one (.p x))) : RepP w S v x := by
  cases r; assumption
theorem reps1 {w : World} {S : Seen} {vs : Array Value} {a : LV} (h : RepLs w S (fun _ => none) (fun _ => none) vs.toList [a]) : ∃ v, vs = #[v] ∧ RepL w S (fun _ => none) (fun _ => none) v a := by
  obtain ⟨h1, h2⟩ := h
  obtain ⟨l⟩ := vs
  match l, h1 with
  | [v], _ => exact ⟨v, rfl, h2 0 (by simp) (by simp)⟩
theorem reps4 {w : World} {S : Seen} {ρ : Place} {h : Heap} {vs : Array Value} {a b c d : CV} (r : RepCs w S ρ h vs.toList [a, b, c, d]) : ∃ x y z u, vs = #[x, y, z, u] ∧ RepC w S ρ h x a ∧ RepC w S ρ h y b ∧ RepC w S ρ h z c ∧ RepC w S ρ h u d := by
  obtain ⟨h1, h2⟩ := r
  obtain ⟨l⟩ := vs
  match l, h1 with
  | [x, y, z, u], _ => exact ⟨x, y, z, u, rfl, h2 0 (by simp) (by simp), h2 1 (by simp) (by simp), h2 2 (by simp) (by simp), h2 3 (by simp) (by simp)⟩
theorem reps3 {w : World} {S : Seen} {ρ : Place} {h : Heap} {vs : Array Value} {a b c : CV} (r : RepCs w S ρ h vs.toList [a, b, c]) : ∃ x y z, vs = #[x, y, z] ∧ RepC w S ρ h x a ∧ RepC w S ρ h y b ∧ RepC w S ρ h z c := by
  obtain ⟨h1, h2⟩ := r
  obtain ⟨l⟩ := vs
  match l, h1 with
  | [x, y, z], _ => exact ⟨x, y, z, rfl, h2 0 (by simp) (by simp), h2 1 (by simp) (by simp), h2 2 (by simp) (by simp)⟩
theorem repC_val {w : World} {S : Seen} {ρ : Place} {h : Heap} {v u : Value} (r : RepC w S ρ h v (.p (.val u))) : v = u := by
  cases r with
  | p r => cases r; rfl
theorem repC_p {w : World} {S : Seen} {ρ : Place} {h : Heap} {v : Value} {x : PV} (r : RepC w S ρ h v (.p x)) : RepP w S v x := by
  cases r; assumption
theorem rep_six (w : World) (S : Seen) (a b c d e f : Int) : RepCs w S (fun _ => none) (fun _ => none) (#[.int .i64 a, .int .i64 b, .int .i64 c, .int .i64 d, .int .i64 e, .int .i64 f] : Array Value).toList [.p (pi a), .p (pi b), .p (pi c), .p (pi d), .p (pi e), .p (pi f)] := by
  refine ⟨rfl, fun i hi hc => ?_⟩
  match i, hc with
  | 0, _ => exact .p (.val _ rfl)
  | 1, _ => exact .p (.val _ rfl)
  | 2, _ => exact .p (.val _ rfl)
  | 3, _ => exact .p (.val _ rfl)
  | 4, _ => exact .p (.val _ rfl)
  | 5, _ => exact .p (.val _ rfl)
theorem rep_one {w : World} {S : Seen} {ρ : Place} {h : Heap} {v : Value} {x : PV} (r : RepP w S v x) : RepCs w S ρ h (#[v] : Array Value).toList [.p x] := by
  refine ⟨rfl, fun i hi hc => ?_⟩
  match i, hc with
  | 0, _ => exact .p r
/-- a slice of structs of six ints -/
theorem six_of {α : Type} {w : World} {S : Seen} {v : Value} (enc : α → List PV) (g : α → Nat → Value) (henc : ∀ x, enc x = (List.range 6).map fun j => .val (g x j)) (hs : ∀ b o, S b o → b < w.heap.size) (l : List α) (r : RepP w S v (.sl 6 (l.map enc))) :
    ∃ ao b o cap, v = .slice ao l.length cap ∧ (0 < l.length → ao = some ⟨b, o, none⟩ ∧ b < w.heap.size) ∧ ∀ i (hi : i < l.length) j, j < 6 → w.cell? ⟨b, o + i * 6 + j, none⟩ = some (g l[i] j) := by
  generalize hx : List.map enc l = xs at r
  cases r with
  | slnil =>
    have : l = [] := by simpa using hx
    subst this
    exact ⟨none, 0, 0, 0, rfl, fun h => by simp at h, fun i hi => by simp at hi⟩
  | sl b o n cap e f xs hn hcap he hm hl2 hc hr =>
    subst hx
    have hn' : l.length = n := by simpa using hn
    subst hn'
    refine ⟨some ⟨b, o, none⟩, b, o, cap, rfl, fun h => ⟨rfl, hs _ _ (hc 0 0 h (by omega)).1⟩, fun i hi j hj => ?_⟩
    have h1 := (hc i j hi hj).2
    have h2 := hr i j (by simpa using hi) (by simp [henc]; exact hj)
    simp only [List.getElem_map, henc, List.getElem_range] at h2
    have h3 : f i j = g l[i] j := by generalize f i j = u at h2; cases h2; rfl
    rw [show o + (i * 6 + j) = o + i * 6 + j by omega, h3] at h1
    exact h1
/-- what a row owns is what it shows -/
theorem rep_own {w : World} {S : Seen} {B e : Nat} {v : Value} {l : List Nat} (h : w.ownsRow B e 1 v l.length (intV l)) (hS : ∀ b o, B ≤ b → b < w.heap.size → S b o) : RepP w S v (.sl 1 ((l.map fun x : Nat => (x : Int)).map encI)) := by
  rcases h.2 with ⟨h1, h2⟩ | ⟨g, cap, cur, e1, hb, hc, hn, hm, hs, ht⟩
  · have : l = [] := List.length_eq_zero_iff.1 h2
    subst this; subst h1; exact .slnil 1
  · subst e1
    have hcell := fun i (hi : i < l.length) => (h.cellAt i (by omega)).trans (intV_get l i hi)
    refine .sl g 0 _ _ 1 (fun i _ => .int .i64 (l.getD i 0 : Int)) _ (by simp) hn (Nat.le_refl _) (by unfold huge; unfold maxLen at hm; omega) (fun x hx => ?_) (fun i j hi hj => ⟨hS _ _ hb (Array.getElem?_eq_some_iff.1 hc).1, ?_⟩) (fun i j hi hj => ?_)
    · obtain ⟨y, _, rfl⟩ := List.mem_map.1 hx; rfl
    · have hj0 : j = 0 := by omega
      subst hj0
      rw [show 0 + (i * 1 + 0) = i by omega]
      exact hcell i hi
    · have hj0 : j = 0 := by
        simp [encI] at hj; exact hj
      subst hj0
      have hi' : i < l.length := by simpa using hi
      simp only [List.getElem_map, encI, List.getElem_cons_zero]
      rw [List.getD_eq_getElem?_getD, List.getElem?_eq_getElem hi']
      exact .val _ rfl
theorem rep_grid {w w1 : World} {S : Seen} {B : Nat} {H : Value} {hs : List Value} {rows : List (List Nat)} (h : GridW w1 w B 22 3 H hs rows) (hS : ∀ b o, B ≤ b → b < w.heap.size → S b o) :
    RepP w S H (.sl 1 ((rows.map fun r => r.map fun x : Nat => (x : Int)).map fun x => [.sl 1 (x.map encI)])) := by
  have hlen := h.len
  rcases h.head.2 with ⟨h1, h2⟩ | ⟨g, cap, cur, e1, hb, hc, hn, hm, hs', ht⟩
  · have : rows = [] := List.length_eq_zero_iff.1 (by omega)
    subst this; subst h1; exact .slnil 1
  · subst e1
    have hcell := fun i (hi : i < hs.length) => h.head.cellAt i (by omega)
    have hn2 : hs.length ≤ huge := by unfold huge; unfold maxLen at hm; omega
    refine .sl g 0 _ _ 1 (fun i _ => hs.getD i undef) _ (by simp [hlen]) hn (Nat.le_refl _) hn2 (fun x hx => ?_) (fun i j hi hj => ⟨hS _ _ hb (Array.getElem?_eq_some_iff.1 hc).1, ?_⟩) (fun i j hi hj => ?_)
    · obtain ⟨y, _, rfl⟩ := List.mem_map.1 hx; rfl
    · have hj0 : j = 0 := by omega
      subst hj0
      rw [show 0 + (i * 1 + 0) = i by omega, hcell i hi, List.getD_eq_getElem?_getD, List.getElem?_eq_getElem hi]; rfl
    · have hj0 : j = 0 := by simpa using hj
      subst hj0
      have hi' : i < rows.length := by simpa using hi
      simp only [List.getElem_map, List.getElem_cons_zero]
      have := rep_own (S := S) (h.own i hi') hS
      rw [List.getD_eq_getElem?_getD (l := rows), List.getElem?_eq_getElem hi'] at this
      exact this
theorem mapM_get {α β : Type} (f : α → Option β) : ∀ (l : List α) (ys : List β), l.mapM f = some ys → ys.length = l.length ∧ ∀ i (h : i < l.length) (h' : i < ys.length), f l[i] = some ys[i]
  | [], ys, h => by
    simp at h; subst h
    exact ⟨rfl, fun i h => by simp at h⟩
  | x :: l, ys, h => by
    rw [List.mapM_cons] at h
    simp only [bind, Option.bind_eq_some_iff, pure, Option.some.injEq] at h
    obtain ⟨y, h1, ys', h2, rfl⟩ := h
    obtain ⟨a1, a2⟩ := mapM_get f l ys' h2
    refine ⟨by simp [a1], fun i h h' => ?_⟩
    match i with
    | 0 => exact h1
    | i + 1 => exact a2 i (by simpa using h) (by simpa using h')
/-- rscode.Codeword, of words that are codewords -/
def isCode (w : List Int) : Prop := 7 ≤ w.length ∧ w.length ≤ 15 ∧ (∀ x ∈ w, 0 ≤ x ∧ x < 32) ∧ ∀ j, 1 ≤ j → j ≤ 6 → syn w.length (w.map Int.toNat) j = 0
open Classical in
noncomputable def rscode_Codeword (w : List Int) : Option Bool := if isCode w then some true else none
theorem nats_of {w : World} {b o : Nat} {l : List Int} (h : IntsAt w b o l) (hn : ∀ x ∈ l, 0 ≤ x ∧ x < 32) : NatsAt w b o (l.map Int.toNat) ∧ Sml (l.map Int.toNat) := by
  refine ⟨fun i hi => ?_, fun x hx => ?_⟩
  · rw [List.length_map] at hi
    rw [h i hi]
    have h1 := hn _ (List.getElem_mem hi)
    rw [List.getD_eq_getElem?_getD, List.getElem?_eq_getElem hi, List.getD_eq_getElem?_getD, List.getElem?_map, List.getElem?_eq_getElem hi]
    show some (Value.int .i64 l[i]) = some (Value.int .i64 ((l[i].toNat : Nat) : Int))
    rw [Int.toNat_of_nonneg h1.1]
  · obtain ⟨y, hy, rfl⟩ := List.mem_map.1 hx
    have := hn y hy
    omega
set_option maxRecDepth 100000 in
theorem ok_rscode_Codeword (w_ : List Int) (r_ : Bool) (H0 : rscode_Codeword w_ = some r_) : CallOK Tryd.prog 9 [.one (.p (.sl 1 (List.map encI w_)))] [] [.one (.p (.val (.bool r_)))] [] := by
  unfold rscode_Codeword at H0
  split at H0
  · rename_i hx
    obtain rfl := Option.some.inj H0
    obtain ⟨x1, x2, x3, x4⟩ := hx
    refine callOK_read Tryd.func9 rfl (by kernel_rfl) fun w S vs ht hs hr => ?_
    obtain ⟨v, rfl, rv⟩ := reps1 hr
    obtain ⟨b, o, cap, rfl, hb, hI⟩ := ints_of hs w_ (by omega) (repL_p rv)
    obtain ⟨hT, h2⟩ := tabsAt_of ht
    obtain ⟨hN, hsm⟩ := nats_of hI x3
    have hwk := Tryd.Codeword_walk (w_.map Int.toNat) b o cap w hT hb h2 hN (by simpa using x1) (by simpa using x2) hsm (by simpa using x4)
    rw [List.length_map] at hwk
    refine hwk.mono ?_
    rintro e w' ⟨rfl, h⟩
    exact ⟨_, S, rfl, sinceBelow h, fun _ _ h => h, fun _ _ h => .inl h, .p (.val _ rfl)⟩
  · cases H0
/-- rscode.Decode, of words that can be decoded -/
def decGood (word : List Int) (r : Nat × List Nat × List Nat) : Prop := 7 ≤ word.length ∧ word.length ≤ 15 ∧ (∀ x ∈ word, -1 ≤ x ∧ x < 32) ∧ (∀ i ∈ r.2.1, i < word.length) ∧ r.2.1.length = r.2.2.length ∧ Sml r.2.2
open Classical in
noncomputable def rscode_Decode (word : List Int) : Option (List Int × Int × Int) := (decP word).bind fun r => if decGood word r then some (((addAt (fillOf word) r.2.1 r.2.2).take (word.length - 6)).map (fun x : Nat => (x : Int)), (r.1 : Int), 0) else none
set_option maxRecDepth 100000 in
theorem ok_rscode_Decode (word : List Int) (r_ : List Int × Int × Int) (H0 : rscode_Decode word = some r_) : CallOK Tryd.prog 30 [.one (.p (.sl 1 (List.map encI word)))] [] [.one (.p (.sl 1 (List.map encI r_.1))), .one (.p (pi r_.2.1)), .one (.p (pi r_.2.2))] [] := by
  unfold rscode_Decode at H0
  cases hd : decP word with
  | none => rw [hd] at H0; cases H0
  | some r =>
    rw [hd, Option.bind_some] at H0
    obtain ⟨kk, pl, vv⟩ := r
    split at H0
    · rename_i hx
      obtain rfl := Option.some.inj H0
      obtain ⟨x1, x2, x3, x4, x5, x6⟩ := hx
      refine callOK_read Tryd.func30 rfl (by kernel_rfl) fun w S vs ht hs hr => ?_
      obtain ⟨v, rfl, rv⟩ := reps1 hr
      obtain ⟨b, o, cap, rfl, hb, hI⟩ := ints_of hs word (by omega) (repL_p rv)
      obtain ⟨hT, h2⟩ := tabsAt_of ht
      refine (Tryd.Decode_walk word b o cap w hT h2 hb hI x1 x2 (fun i hi => by
        have := x3 _ (List.getElem_mem hi)
        rw [List.getD_eq_getElem?_getD, List.getElem?_eq_getElem hi]; exact this) kk pl vv hd x4 x5 x6).mono ?_
      rintro e w' ⟨D, rfl, h, hD, hV⟩
      have hlen : (addAt (fillOf word) pl vv).length = word.length := by rw [addAt_len, fillOf_len]
      refine ⟨_, fun b o => S b o ∨ b = D, rfl, sinceBelow h, fun _ _ h => .inl h, fun b o h => h.imp id (fun h => by subst h; exact ⟨hD, hV.lt⟩), _, rfl, repLs_cons (.p ?_) (repLs_cons (.p (.val _ rfl)) (repLs_cons (.p (.val _ rfl)) repLs_nil))⟩
      refine .sl D 0 _ _ 1 (fun i _ => intF (addAt (fillOf word) pl vv) i) _ (by simp [hlen]) (Nat.le_refl _) (Nat.le_refl _) (by unfold huge; omega) (fun x hx => ?_) (fun i j hi hj => ⟨.inr rfl, ?_⟩) (fun i j hi hj => ?_)
      · obtain ⟨y, _, rfl⟩ := List.mem_map.1 hx; rfl
      · have hj0 : j = 0 := by omega
        subst hj0
        rw [show 0 + (i * 1 + 0) = i by omega]
        exact hV.cell (by omega)
      · have hj0 : j = 0 := by
          simp [encI] at hj; exact hj
        subst hj0
        simp only [List.length_map, List.length_take, hlen] at hi
        simp only [List.getElem_map, encI, List.getElem_cons_zero, List.getElem_take]
        unfold intF
        rw [List.getD_eq_getElem?_getD, List.getElem?_eq_getElem (by omega)]
        exact .val _ rfl
    · cases H0
/-- strip.marked, of a strip -/
def strip_marked (s b e : Str) : Option Bool := match b, e with
  | [c], [d] => if s.length = 74 then some (decide (4 ≤ (s.take 7).count c) && decide (4 ≤ (s.drop 67).count d)) else none
  | _, _ => none
theorem args3 {l l' l'' : LV} {u u' u'' : Value} (h : ∀ (w : World) (S : Seen) (ρ : Place) (h : Heap) (v : Value), RepL w S ρ h v l → v = u) (h' : ∀ (w : World) (S : Seen) (ρ : Place) (h : Heap) (v : Value), RepL w S ρ h v l' → v = u') (h'' : ∀ (w : World) (S : Seen) (ρ : Place) (h : Heap) (v : Value), RepL w S ρ h v l'' → v = u'') (w : World) (S : Seen) (ρ : Place) (hh : Heap) (vs : List Value) (r : RepLs w S ρ hh vs [l, l', l'']) : vs = [u, u', u''] := by
  obtain ⟨h1, h2⟩ := r
  match vs, h1 with
  | [v, v', v''], _ =>
    rw [h w S ρ hh v (h2 0 (by simp) (by simp)), h' w S ρ hh v' (h2 1 (by simp) (by simp)), h'' w S ρ hh v'' (h2 2 (by simp) (by simp))]
set_option maxRecDepth 100000 in
theorem ok_strip_marked (s b e : Str) (r_ : Bool) (H0 : strip_marked s b e = some r_) : CallOK Tryd.prog 53 [.one (.p (.val (.string (bs s)))), .one (.p (.val (.string (bs b)))), .one (.p (.val (.string (bs e))))] [] [.one (.p (.val (.bool r_)))] [] := by
  unfold strip_marked at H0
  split at H0
  · rename_i c d
    split at H0
    · rename_i hx
      obtain rfl := Option.some.inj H0
      refine callOK_read Tryd.func53 rfl (by kernel_rfl) fun w S vs ht hs hr => ?_
      have hv := args3 (fun w S ρ h v r => repL_val r) (fun w S ρ h v r => repL_val r) (fun w S ρ h v r => repL_val r) w S _ _ _ hr
      have hvs : vs = #[.string (bs s), .string (bs [c]), .string (bs [d])] := by apply Array.ext'; simpa using hv
      subst hvs
      refine (Tryd.marked_walk (bs s) (by simpa [bs, ByteArray.size] using hx) c d w).mono ?_
      rintro e w' ⟨rfl, rfl⟩
      rw [show (bs s).data.toList = s by simp [bs]]
      exact ⟨_, S, rfl, Below.refl _ _, fun _ _ h => h, fun _ _ h => .inl h, .p (.val _ rfl)⟩
    · cases H0
  · cases H0
/-- strip.Flip -/
def strip_Flip (s : Str) : Option Str := if s.length ≤ 1000 then some s.reverse else none
set_option maxRecDepth 100000 in
theorem ok_strip_Flip (s r_ : Str) (H0 : strip_Flip s = some r_) : CallOK Tryd.prog 33 [.one (.p (.val (.string (bs s))))] [] [.one (.p (.val (.string (bs r_))))] [] := by
  unfold strip_Flip at H0
  split at H0
  · rename_i hx
    obtain rfl := Option.some.inj H0
    refine callOK_read Tryd.func33 rfl (by kernel_rfl) fun w S vs ht hs hr => ?_
    have hv := args1 (fun w S ρ h v r => repL_val r) w S _ _ _ hr
    have hvs : vs = #[.string (bs s)] := by apply Array.ext'; simpa using hv
    subst hvs
    refine (Tryd.Flip_walk (bs s) (by simpa [bs, ByteArray.size] using hx) w).mono ?_
    rintro e w' ⟨rfl, h⟩
    rw [show (bs s).data.toList = s by simp [bs]]
    exact ⟨_, S, rfl, h, fun _ _ h => h, fun _ _ h => .inl h, .p (.val _ rfl)⟩
  · cases H0
end Go.LS
