/-
  The framework LS, part 33: drawn regions in which one operation may come before or behind another that it reads from.
  No condition: lemmas.
-/
import Derived.Test.YtmgjidfafnajnaaDoorLs29
namespace Go.LS
set_option linter.all false
set_option linter.unusedSimpArgs false
set_option linter.unusedVariables false
section
variable {P : Program} {V : List Nat} {st : LState} {Q : Exit → LState → Prop}
/-- conflicts but of writing ahead of reading -/
def confW (x y : Eff) : Bool := inter (wsK x) (wsK y) || inter (rsK x) (wsK y) || inter (wbK x) (wbK y) || inter (rbK x) (wbK y)
def confX (pq : Nat × Nat) (j k : Nat) (x y : Eff) : Bool := bif (j == pq.1) && (k == pq.2) then confW x y else conf x y
theorem conf_of {x y : Eff} (h : confW x y = true) : conf x y = true := by
  unfold confW at h
  unfold conf
  simp only [Bool.or_eq_true] at h ⊢
  rcases h with ((h | h) | h) | h <;> simp [h]
theorem confX_of {pq : Nat × Nat} {j k : Nat} {x y : Eff} (h : confW x y = true) : confX pq j k x y = true := by
  unfold confX
  cases (j == pq.1) && (k == pq.2)
  · exact conf_of h
  · exact h
theorem confX_ne {pq : Nat × Nat} {j k : Nat} {x y : Eff} (hne : ¬(j = pq.1 ∧ k = pq.2)) (h : conf x y = true) : confX pq j k x y = true := by
  unfold confX
  have : ((j == pq.1) && (k == pq.2)) = false := by
    rw [← Bool.not_eq_true]
    intro h
    simp only [Bool.and_eq_true, beq_iff_eq] at h
    exact hne h
  rw [this]; exact h
def confOK2 (pq : Nat × Nat) (ops : Array Oper) (effs : List Eff) (M : List Nat) : Bool :=
  (List.range ops.size).all fun k =>
    (match ops[k]? with | some o => o.after.all fun e => !Region.binds .any e || decide (e.on < k) | none => true) &&
    (List.range k).all fun j => match effs[j]?, effs[k]? with | some x, some y => !confX pq j k x y || (M.getD k 0).testBit j | _, _ => true
structure ExcOK (effs : List Eff) (pq : Nat × Nat) (ea : Eff) (st0 : LState) : Prop where
  rs : ∀ i (hi : i < effs.length), i = pq.2 → rsK ea = rsK effs[i]
  rb : ∀ i (hi : i < effs.length), i = pq.2 → rbK ea = rbK effs[i]
  same : ∀ i (hi : i < effs.length), i = pq.2 → ea.k = none ∧ effs[i].k = none ∧ ea.ws = effs[i].ws ∧ ea.wb = effs[i].wb
  reads : ea.reads (runX (fun j => decide (j < pq.2) && !(decide (j = pq.1))) 0 effs st0)
theorem runX_none : ∀ (es : List Eff) (k : Nat) (X : Nat → Bool) (st : LState), (∀ j, k ≤ j → j < k + es.length → X j = false) → runX X k es st = st
  | [], _, _, _, _ => rfl
  | e :: es, k, X, st, h => by
    simp only [runX]
    rw [h k (by omega) (by simp)]
    exact runX_none es (k + 1) X _ fun j h1 h2 => h j (by omega) (by simp at h2 ⊢; omega)
theorem runT_append : ∀ (l m : List Eff) (st : LState), runT (l ++ m) st = runT m (runT l st)
  | [], _, _ => rfl
  | e :: l, m, st => by simp only [List.cons_append, runT]; exact runT_append l m _
theorem runX_skip (effs : List Eff) (p q : Nat) (hpq : p < q) (hq : q ≤ effs.length) (st : LState) : runX (fun j => decide (j < q) && !(decide (j = p))) 0 effs st = runT (effs.take p ++ (effs.drop (p + 1)).take (q - p - 1)) st := by
  have e : effs = effs.take p ++ ([effs[p]'(by omega)] ++ ((effs.drop (p + 1)).take (q - p - 1) ++ effs.drop q)) := by
    conv => lhs; rw [← List.take_append_drop p effs]
    congr 1
    rw [List.drop_eq_getElem_cons (by omega)]
    rw [List.singleton_append]
    congr 1
    conv => lhs; rw [← List.take_append_drop (q - p - 1) (effs.drop (p + 1))]
    congr 1
    rw [List.drop_drop]
    congr 1; omega
  conv => lhs; rw [e]
  have l1 : (effs.take p).length = p := by simp; omega
  have l2 : ((effs.drop (p + 1)).take (q - p - 1)).length = q - p - 1 := by simp; omega
  generalize effs.take p = A at l1 ⊢
  generalize (effs.drop (p + 1)).take (q - p - 1) = B at l2 ⊢
  generalize effs[p]'(by omega) = x
  generalize effs.drop q = C
  rw [runX_append, runX_append, runX_append, runT_append]
  rw [runX_all A 0 _ st (fun j _ h => by simp at h ⊢; omega)]
  rw [runX_none [x] _ _ _ (fun j h1 h2 => by simp at h1 h2 ⊢; omega)]
  rw [runX_all B _ _ _ (fun j h1 h2 => by simp at h1 h2 ⊢; omega)]
  rw [runX_none C _ _ _ (fun j h1 h2 => by simp at h1 h2 ⊢; omega)]
def sameK (effs : List Eff) (pq : Nat × Nat) (ea : Eff) : Prop := pq.1 < pq.2 ∧ pq.2 ≤ effs.length ∧ ∃ e, effs[pq.2]? = some e ∧ rsK ea = rsK e ∧ rbK ea = rbK e ∧ ea.k = none ∧ e.k = none ∧ ea.ws = e.ws ∧ ea.wb = e.wb
theorem excOK_of {effs : List Eff} {pq : Nat × Nat} {ea : Eff} {st : LState} (h : sameK effs pq ea) (hr : ea.reads (runT (effs.take pq.1 ++ (effs.drop (pq.1 + 1)).take (pq.2 - pq.1 - 1)) st)) : ExcOK effs pq ea st := by
  obtain ⟨h1, h2, e, h3, h4, h5, h6, h7, h8, h9⟩ := h
  have : ∀ i (hi : i < effs.length), i = pq.2 → effs[i] = e := by
    intro i hi hp
    subst hp
    rw [List.getElem?_eq_getElem hi] at h3
    exact Option.some.inj h3
  refine ⟨fun i hi hp => by rw [this i hi hp]; exact h4, fun i hi hp => by rw [this i hi hp]; exact h5, fun i hi hp => by rw [this i hi hp]; exact ⟨h6, h7, h8, h9⟩, ?_⟩
  rw [runX_skip effs _ _ h1 h2]
  exact hr
theorem draw_sound2 (E : Env P) {ops : Array Oper} {n : Nat} {effs : List Eff} {M : List Nat} {st0 : LState} {w0 : World} {B : List Nat} {S0 : Seen} {R0 : Home} {Q : Exit → Act → World → Prop}
    (pq : Nat × Nat) (ea : Eff) (hexc : ExcOK effs pq ea st0) (hokE : ∀ o, ops[pq.2]? = some o → EffOK P E ops n o ea)
    (hn : st0.n = n) {rest pre : List Oper} {q : Prop} (hpre : ops.toList = pre ++ rest) (hlen : effs.length = pre.length) (hch : ∀ k j, effs.length ≤ k → j < k → k < ops.size → (M.getD k 0).testBit j = true) (hconf : confOK2 pq ops effs M = true) (hM : M = masksOf ops.toList []) (hK : KillOK effs st0)
    (hok : ∀ i (hi : i < effs.length) o, ops[i]? = some o → EffOK P E ops n o effs[i]) (hT : okT n effs st0) (hv : (evOps P E ops rest (runT effs st0) q).2)
    (hQ : ∀ a w, Inv w0 B S0 R0 (evOps P E ops rest (runT effs st0) q).1 a w → Q .normal a w) :
    ∀ (fuel : Nat) (listed : Array Bool) (a : Act) (w : World), listed.size = ops.size → (∀ j, effs.length ≤ j → listed.getD j false = false) → Closed ops listed → (unlisted ops listed).length = fuel → Inv w0 B S0 R0 (runX (fun j => listed.getD j false) 0 effs st0) a w → wpAny P .any ops Q fuel listed a w := by
  have hlow : ∀ k o, ops[k]? = some o → ∀ e ∈ o.after, Region.binds .any e = true → e.on < k := by
    intro k o ho e he hb
    have hk : k < ops.size := (Array.getElem?_eq_some_iff.1 ho).1
    unfold confOK2 at hconf
    have := List.all_eq_true.1 hconf k (List.mem_range.2 hk)
    simp only [Bool.and_eq_true] at this
    have h1 := this.1
    rw [ho] at h1
    simp only [Array.all_eq_true', Bool.or_eq_true, Bool.not_eq_true', decide_eq_true_eq] at h1
    rcases h1 e he with h | h
    · rw [hb] at h; cases h
    · exact h
  have hcf : ∀ j k (hj : j < effs.length) (hk : k < effs.length), j < k → confX pq j k effs[j] effs[k] = true → (M.getD k 0).testBit j = true := by
    intro j k hj hk hjk hc
    unfold confOK2 at hconf
    have := List.all_eq_true.1 hconf k (List.mem_range.2 (by have := hlen; rw [← Array.length_toList, hpre, List.length_append]; omega))
    simp only [Bool.and_eq_true] at this
    have h2 := List.all_eq_true.1 this.2 j (List.mem_range.2 hjk)
    rw [List.getElem?_eq_getElem hj, List.getElem?_eq_getElem hk] at h2
    simp only [hc, Bool.not_true, Bool.false_or] at h2
    exact h2
  have hsize : ops.size = effs.length + rest.length := by rw [← Array.length_toList, hpre, List.length_append, hlen]
  have hswitch : ∀ (listed : Array Bool) (fuel : Nat) a w, listed.size = ops.size → (∀ j, effs.length ≤ j → listed.getD j false = false) → Closed ops listed → (unlisted ops listed).length = fuel →
      (∀ j, j < effs.length → listed.getD j false = true) → Inv w0 B S0 R0 (runX (fun j => listed.getD j false) 0 effs st0) a w → wpAny P .any ops Q fuel listed a w := by
    intro listed fuel a w hsz hno hc hu hall hi
    rw [runX_all effs 0 _ st0 fun j _ h2 => hall j (by omega)] at hi
    have hfu : fuel = rest.length := by
      rw [← hu]
      have e1 : unlisted ops listed = (List.range ops.size).filter fun k => decide (effs.length ≤ k) := by
        unfold unlisted
        refine List.filter_congr fun k hk => ?_
        by_cases h : effs.length ≤ k
        · rw [hno k h]; simp [h]
        · rw [hall k (by omega)]; simp [h]
      rw [e1, hsize]
      have e2 : ∀ (p r : Nat), ((List.range (p + r)).filter fun k => decide (p ≤ k)).length = r := by
        intro p r
        induction r with
        | zero =>
          rw [List.length_eq_zero_iff, List.filter_eq_nil_iff]
          intro k hk
          simp at hk ⊢
          omega
        | succ r ihr =>
          rw [← Nat.add_assoc, List.range_succ, List.filter_append, List.length_append, ihr]
          simp
      exact e2 _ _
    subst hfu
    refine chain_sound (m := effs.length) E hlow (fun k j h1 h2 h3 => by rw [← hM]; exact hch k j h1 h2 h3) rest pre listed (runT effs st0) q a w hpre (by omega) hsz ?_ hc hv hi hQ
    intro j hj
    rw [← hlen]
    by_cases h : j < effs.length
    · rw [hall j h]; simp [h]
    · rw [hno j (by omega)]; simp [h]
  intro fuel
  induction fuel with
  | zero =>
    intro listed a w hsz hno hc hu hi
    refine hswitch listed 0 a w hsz hno hc hu (fun j hj => ?_) hi
    rw [← Bool.not_eq_false]
    intro hf
    have : j ∈ unlisted ops listed := List.mem_filter.2 ⟨List.mem_range.2 (by omega), by rw [hf]; rfl⟩
    rw [List.length_eq_zero_iff.1 hu] at this; cases this
  | succ fuel ih =>
    intro listed a w hsz hno hc hu hi
    by_cases hallm : ∀ j, j < effs.length → listed.getD j false = true
    · exact hswitch listed _ a w hsz hno hc hu hallm hi
    obtain ⟨j0, hj0⟩ := Classical.not_forall.1 hallm
    obtain ⟨hj1, hj2⟩ := Classical.not_imp.1 hj0
    have hexists : Region.ready .any ops listed ≠ [] := by
      intro h0
      have key : ∀ j, j < effs.length → listed.getD j false = true := by
        intro j
        induction j using Nat.strongRecOn with
        | _ j ihj =>
          intro hj
          rw [← Bool.not_eq_false]
          intro hf
          have hjs : j < ops.size := by omega
          have : j ∈ Region.ready .any ops listed := by
            refine mem_ready.2 ⟨?_, ops[j], Array.getElem?_eq_getElem hjs, fun e he hb => ?_⟩
            · rw [Array.getD, dif_pos (by omega)] at hf ⊢; exact hf
            · have hlt := hlow j _ (Array.getElem?_eq_getElem hjs) e he hb
              exact ihj e.on hlt (by omega)
          rw [h0] at this; cases this
      exact hallm key
    refine ⟨fun h0 => absurd h0 hexists, fun i hir => ?_⟩
    unfold wpOp
    obtain ⟨hi1, oi, hoi, hall⟩ := mem_ready.1 hir
    have his : i < ops.size := (Array.getElem?_eq_some_iff.1 hoi).1
    have hie : i < effs.length := by
      rcases Nat.lt_or_ge i effs.length with h | h
      · exact h
      · exfalso
        have h3 := hch i j0 h (by omega) his
        rw [hM] at h3
        exact hj2 (masks_listed hc i j0 (fun o ho e he hb => by rw [hoi] at ho; cases ho; exact hall e he hb) h3)
    have hil : listed.getD i false = false := by
      rw [Array.getD, dif_pos (by omega)] at hi1 ⊢; exact hi1
    -- what comes before i and is in conflict with it is listed; what comes after is not
    have hbefore : ∀ j (hj : j < effs.length), j < i → confX pq j i effs[j] effs[i] = true → listed.getD j false = true := by
      intro j hj hji hcj
      have := hcf j i hj hie hji hcj
      rw [hM] at this
      exact masks_listed hc i j (fun o ho e he hb => by rw [hoi] at ho; cases ho; exact hall e he hb) this
    have hafter : ∀ j (hj : j < effs.length), i < j → confW effs[i] effs[j] = true → listed.getD j false = false := by
      intro j hj hij hcj
      rw [← Bool.not_eq_true]
      intro hlj
      have := hcf i j hie hj hij (confX_of hcj)
      rw [hM] at this
      have h2 := masks_listed hc j i (fun o ho e he hb => hc j o ho hlj e he hb) this
      rw [hil] at h2; cases h2
    split
    · rename_i ho; rw [hoi] at ho; cases ho
    · rename_i o ho
      rw [hoi] at ho; cases ho
      -- the state before i agrees with the text's where i reads
      have htext : runT (effs.take i) st0 = runX (fun j => decide (j < i)) 0 effs st0 := by
        conv => rhs; rw [← List.take_append_drop i effs]
        rw [runX_append, runX_all (effs.take i) 0 _ st0 (fun j _ h2 => by simp at h2 ⊢; omega)]
        have : ∀ (es : List Eff) (k : Nat) (s : LState), i ≤ k → runX (fun j => decide (j < i)) k es s = s := by
          intro es
          induction es with
          | nil => intro k s _; rfl
          | cons e es ihe =>
            intro k s hk
            simp only [runX]
            rw [if_neg (show ¬ (decide (k < i) = true) by simp; omega)]
            exact ihe (k + 1) s (by omega)
        rw [this _ _ _ (by simp; omega)]
      have hreads : (i = pq.2 → listed.getD pq.1 false = true) → effs[i].reads (runX (fun j => listed.getD j false) 0 effs st0) := by
        intro hpl
        have hr := okT_reads n effs st0 i hie hT
        rw [htext] at hr
        refine ⟨allS_iff.2 fun p hp => ?_, allO_iff.2 fun p hp => ?_⟩
        · rw [← allS_iff.1 hr.1 p hp]
          refine runX_s p.1 effs 0 _ _ st0 st0 rfl fun j hj ht => ?_
          have hk : p.1 ∈ rsK effs[i] := List.mem_map.2 ⟨p, hp, rfl⟩
          simp only [Nat.zero_add]
          rcases Nat.lt_trichotomy j i with hji | hji | hji
          · rw [show listed.getD j false = true from by
              by_cases hjp : j = pq.1 ∧ i = pq.2
              · rw [hjp.1]; exact hpl hjp.2
              · exact hbefore j hj hji (confX_ne hjp (by simp [conf, inter_mem ht hk]))]; simp [hji]
          · subst hji; rw [hil]; simp
          · rw [hafter j hj hji (by simp [confW, inter_mem hk ht])]; simp; omega
        · rw [← allO_iff.1 hr.2 p hp]
          refine runX_h p.1 effs 0 _ _ st0 st0 rfl fun j hj ht => ?_
          have hk : p.1 ∈ rbK effs[i] := List.mem_map.2 ⟨p, hp, rfl⟩
          simp only [Nat.zero_add]
          rcases Nat.lt_trichotomy j i with hji | hji | hji
          · rw [show listed.getD j false = true from by
              by_cases hjp : j = pq.1 ∧ i = pq.2
              · rw [hjp.1]; exact hpl hjp.2
              · exact hbefore j hj hji (confX_ne hjp (by simp [conf, inter_mem ht hk]))]; simp [hji]
          · subst hji; rw [hil]; simp
          · rw [hafter j hj hji (by simp [confW, inter_mem hk ht])]; simp; omega
      have hreads2 : i = pq.2 → listed.getD pq.1 false = false → ea.reads (runX (fun j => listed.getD j false) 0 effs st0) := by
        intro hiq hlp
        have hr := hexc.reads
        have hpl : ∀ j, j < effs.length → j = pq.1 → listed.getD j false = false := fun j _ h => by rw [h]; exact hlp
        refine ⟨allS_iff.2 fun p hp => ?_, allO_iff.2 fun p hp => ?_⟩
        · rw [← allS_iff.1 hr.1 p hp]
          refine runX_s p.1 effs 0 _ _ st0 st0 rfl fun j hj ht => ?_
          have hk : p.1 ∈ rsK effs[i] := by
            have := hexc.rs i hie hiq
            rw [← this]; exact List.mem_map.2 ⟨p, hp, rfl⟩
          simp only [Nat.zero_add]
          by_cases hjp : j = pq.1
          · rw [hpl j hj hjp]; simp [hjp]
          rcases Nat.lt_trichotomy j i with hji | hji | hji
          · rw [hbefore j hj hji (confX_ne (fun h => hjp h.1) (by simp [conf, inter_mem ht hk]))]; simp [hjp]; omega
          · subst hji; rw [hil]; simp; intro h; omega
          · rw [hafter j hj hji (by simp [confW, inter_mem hk ht])]; simp; intro h; omega
        · rw [← allO_iff.1 hr.2 p hp]
          refine runX_h p.1 effs 0 _ _ st0 st0 rfl fun j hj ht => ?_
          have hk : p.1 ∈ rbK effs[i] := by
            have := hexc.rb i hie hiq
            rw [← this]; exact List.mem_map.2 ⟨p, hp, rfl⟩
          simp only [Nat.zero_add]
          by_cases hjp : j = pq.1
          · rw [hpl j hj hjp]; simp [hjp]
          rcases Nat.lt_trichotomy j i with hji | hji | hji
          · rw [hbefore j hj hji (confX_ne (fun h => hjp h.1) (by simp [conf, inter_mem ht hk]))]; simp [hjp]; omega
          · subst hji; rw [hil]; simp; intro h; omega
          · rw [hafter j hj hji (by simp [confW, inter_mem hk ht])]; simp; intro h; omega
      -- the state after i
      have hnext : effs[i].app (runX (fun j => listed.getD j false) 0 effs st0) = runX (fun j => (listed.setIfInBounds i true).getD j false) 0 effs st0 := by
        have hset : ∀ j, j ≠ i → (listed.setIfInBounds i true).getD j false = listed.getD j false := fun j hj => getD_set_ne false (Ne.symm hj)
        have hseti : (listed.setIfInBounds i true).getD i false = true := by
          rw [Array.getD, dif_pos (by simp; omega)]; simp
        have e1 : ∀ (X : Nat → Bool), (runX X 0 effs st0).n = st0.n := fun X => runX_n effs 0 X st0
        have hs : ∀ t, (effs[i].app (runX (fun j => listed.getD j false) 0 effs st0)).s t = (runX (fun j => (listed.setIfInBounds i true).getD j false) 0 effs st0).s t := by
          intro t
          by_cases ht : t ∈ wsK effs[i]
          · -- i is the last that writes t
            have hsplit : ∀ X : Nat → Bool, runX X 0 effs st0 = runX X (i + 1) (effs.drop (i + 1)) (if X i then effs[i].app (runX X 0 (effs.take i) st0) else runX X 0 (effs.take i) st0) := by
              intro X
              conv => lhs; rw [← List.take_append_drop i effs]
              rw [runX_append, List.drop_eq_getElem_cons hie]
              simp only [runX, Nat.zero_add, List.length_take, Nat.min_eq_left (Nat.le_of_lt hie)]
            have hout : ∀ (es : List Eff) (k : Nat) (X : Nat → Bool) (s : LState), (∀ j (hj : j < es.length), t ∈ wsK es[j] → X (k + j) = false) → (runX X k es s).s t = s.s t := by
              intro es
              induction es with
              | nil => intro k X s _; rfl
              | cons e es ihe =>
                intro k X s hX
                simp only [runX]
                rw [ihe (k + 1) X _ (fun j hj hw => by
                  have := hX (j + 1) (by simp; omega) (by simpa using hw)
                  rwa [show k + (j + 1) = k + 1 + j by omega] at this)]
                by_cases hw : t ∈ wsK e
                · have := hX 0 (by simp) (by simpa using hw)
                  simp only [Nat.add_zero] at this
                  rw [this]; simp
                · split
                  · exact updS_out e.wsA s.s t hw
                  · rfl
            rw [hsplit fun j => (listed.setIfInBounds i true).getD j false]
            rw [hout _ _ _ _ (fun j hj hw => by
              simp only [List.length_drop] at hj
              simp only [List.getElem_drop] at hw
              rw [hset _ (by omega)]
              exact hafter (i + 1 + j) (by omega) (by omega) (by simp [confW, inter_mem ht hw]))]
            simp only [hseti, if_true]
            exact updS_in effs[i].wsA _ _ t ht
          · rw [show (effs[i].app (runX (fun j => listed.getD j false) 0 effs st0)).s t = (runX (fun j => listed.getD j false) 0 effs st0).s t from updS_out effs[i].wsA _ t ht]
            refine runX_s t effs 0 _ _ st0 st0 rfl fun j hj hw => ?_
            simp only [Nat.zero_add]
            rw [hset j (fun h => ht (by subst h; exact hw))]
        have hh : ∀ t, (effs[i].app (runX (fun j => listed.getD j false) 0 effs st0)).h t = (runX (fun j => (listed.setIfInBounds i true).getD j false) 0 effs st0).h t := by
          intro t
          by_cases ht : t ∈ wbK effs[i]
          · have hsplit : ∀ X : Nat → Bool, runX X 0 effs st0 = runX X (i + 1) (effs.drop (i + 1)) (if X i then effs[i].app (runX X 0 (effs.take i) st0) else runX X 0 (effs.take i) st0) := by
              intro X
              conv => lhs; rw [← List.take_append_drop i effs]
              rw [runX_append, List.drop_eq_getElem_cons hie]
              simp only [runX, Nat.zero_add, List.length_take, Nat.min_eq_left (Nat.le_of_lt hie)]
            have hout : ∀ (es : List Eff) (k : Nat) (X : Nat → Bool) (s : LState), (∀ j (hj : j < es.length), t ∈ wbK es[j] → X (k + j) = false) → (runX X k es s).h t = s.h t := by
              intro es
              induction es with
              | nil => intro k X s _; rfl
              | cons e es ihe =>
                intro k X s hX
                simp only [runX]
                rw [ihe (k + 1) X _ (fun j hj hw => by
                  have := hX (j + 1) (by simp; omega) (by simpa using hw)
                  rwa [show k + (j + 1) = k + 1 + j by omega] at this)]
                by_cases hw : t ∈ wbK e
                · have := hX 0 (by simp) (by simpa using hw)
                  simp only [Nat.add_zero] at this
                  rw [this]; simp
                · split
                  · exact updH_out e.wbA s.h t hw
                  · rfl
            rw [hsplit fun j => (listed.setIfInBounds i true).getD j false]
            rw [hout _ _ _ _ (fun j hj hw => by
              simp only [List.length_drop] at hj
              simp only [List.getElem_drop] at hw
              rw [hset _ (by omega)]
              exact hafter (i + 1 + j) (by omega) (by omega) (by simp [confW, inter_mem ht hw]))]
            simp only [hseti, if_true]
            exact updH_in effs[i].wbA _ _ t ht
          · rw [show (effs[i].app (runX (fun j => listed.getD j false) 0 effs st0)).h t = (runX (fun j => listed.getD j false) 0 effs st0).h t from updH_out effs[i].wbA _ t ht]
            refine runX_h t effs 0 _ _ st0 st0 rfl fun j hj hw => ?_
            simp only [Nat.zero_add]
            rw [hset j (fun h => ht (by subst h; exact hw))]
        have : ∀ x y : LState, x.n = y.n → (∀ t, x.s t = y.s t) → (∀ t, x.h t = y.h t) → x = y := by
          rintro ⟨n1, s1, h1⟩ ⟨n2, s2, h2⟩ rfl hs hh
          have e1 : s1 = s2 := funext hs
          have e2 : h1 = h2 := funext hh
          subst e1 e2
          rfl
        exact this _ _ (by rw [app_n, e1, e1]) hs hh
      have hst : (runX (fun j => listed.getD j false) 0 effs st0).n = n := by rw [runX_n]; exact hn
      have hop' : OpOK P ops oi a w (fun a' w' => Inv w0 B S0 R0 (effs[i].app (runX (fun j => listed.getD j false) 0 effs st0)) a' w') := by
       by_cases halt : i = pq.2 ∧ listed.getD pq.1 false = false
       · obtain ⟨hiq, hlp⟩ := halt
         obtain ⟨hv, heq⟩ := hokE oi (by rw [← hiq]; exact hoi) _ hst (hreads2 hiq hlp)
         have hop := step1_sound E (ops := ops) hi hv
         rw [heq] at hop
         have e0 : ea.appK (runX (fun j => listed.getD j false) 0 effs st0) = effs[i].app (runX (fun j => listed.getD j false) 0 effs st0) := by
           obtain ⟨k1, k2, k3, k4⟩ := hexc.same i hie hiq
           simp only [Eff.appK, Eff.app, Eff.wsA, Eff.wbA, dsOf, dbOf, k1, k2, k3, k4, killO, killHO, List.nil_append]
         rw [e0] at hop
         exact hop
       have hreads := hreads (fun h => by
         rw [← Bool.not_eq_false]; exact fun h2 => halt ⟨h, h2⟩)
       obtain ⟨hv, heq⟩ := hok i hie oi hoi _ hst hreads
       have hop := step1_sound E (ops := ops) hi hv
       rw [heq] at hop
       exact opOK_mono (K' := fun a' w' => Inv w0 B S0 R0 (effs[i].app (runX (fun j => listed.getD j false) 0 effs st0)) a' w') hop (fun a' w' h => by
        cases hek : effs[i].k with
        | none =>
          have e0 : effs[i].appK (runX (fun j => listed.getD j false) 0 effs st0) = effs[i].app (runX (fun j => listed.getD j false) 0 effs st0) := by
            simp only [Eff.appK, Eff.app, Eff.wsA, Eff.wbA, dsOf, dbOf, hek, killO, killHO, List.nil_append]
          rw [e0] at h; exact h
        | some id =>
          rcases hK effs[i] (List.getElem_mem hie) id hek with hnw | ⟨hnw, hid, hs, hb⟩
          · refine unkill hek hnw ?_ h
            obtain ⟨p, hp, hp2⟩ := List.any_eq_true.1 hnw
            simp only [Bool.and_eq_true, beq_iff_eq] at hp2
            have hb := allO_iff.1 hreads.2 p hp
            obtain ⟨S, ρ, iv, _⟩ := hi
            refine noRef_of iv ?_
            rw [← hp2.1, hb]
            exact Option.isNone_iff_eq_none.1 hp2.2
          · rw [kill_eq hek hnw hreads hid (fun t ht => runX_Ps (p := fun v => noS id v = true) effs 0 _ st0 (hs t ht).1 (hs t ht).2) (fun t ht => runX_Ph (p := fun v => noB id v = true) effs 0 _ st0 (hb t ht).1 (hb t ht).2)] at h
            exact h)
      have hfuel : (unlisted ops (listed.setIfInBounds i true)).length = fuel := by
        have hiu : i ∈ unlisted ops listed := List.mem_filter.2 ⟨List.mem_range.2 his, by rw [hil]; rfl⟩
        have hun : unlisted ops (listed.setIfInBounds i true) = (unlisted ops listed).filter (· ≠ i) := by
          unfold unlisted
          rw [List.filter_filter]
          refine List.filter_congr fun k hk => ?_
          by_cases hki : i = k
          · subst hki
            have : (listed.setIfInBounds i true).getD i false = true := by
              rw [Array.getD, dif_pos (by simp; omega)]
              simp
            rw [this]; simp
          · rw [getD_set_ne false hki]
            simp [Ne.symm hki]
        rw [hun]
        have hsort : (unlisted ops listed).Pairwise (· < ·) := List.Pairwise.filter _ List.pairwise_lt_range
        have hnd : (unlisted ops listed).Nodup := hsort.imp fun h => Nat.ne_of_lt h
        have := List.length_erase_of_mem hiu
        rw [hnd.erase_eq_filter] at this
        have e : ((unlisted ops listed).filter fun x => x != i) = (unlisted ops listed).filter (· ≠ i) := List.filter_congr fun x _ => by by_cases h : x = i <;> simp [h]
        rw [← e, this, hu]; rfl
      have hgo : ∀ a' w', Inv w0 B S0 R0 (effs[i].app (runX (fun j => listed.getD j false) 0 effs st0)) a' w' → wpAny P .any ops Q fuel (listed.setIfInBounds i true) a' w' := by
        intro a' w' h
        rw [hnext] at h
        exact ih _ a' w' (by simp [hsz]) (fun j hj => by rw [getD_set_ne false (by omega)]; exact hno j hj) (closed_set hc hir) hfuel h
      have h3 := hop' Q
      split
      · rename_i hw
        rw [if_pos hw] at h3
        exact .inl (Oper.wp_mono hgo h3)
      · rename_i hw
        rw [if_neg hw] at h3
        exact hgo _ _ h3

theorem lok_region_eff2 (E : Env P) (effs : List Eff) (pq : Nat × Nat) (ea : Eff) (hexc : ExcOK effs pq ea st) {n : Nat} {id : Nat} {ops : List Oper} (hmx : P.follows .mixedOrders = true) (hn : st.n = n) (hlen : effs.length ≤ ops.length)
    (hconf : confOK2 pq ops.toArray effs (masksOf ops []) = true) (hchain : chainOK ops.toArray effs.length (masksOf ops []) = true) (hK : KillOK effs st) (hok : ∀ i (hi : i < effs.length) o, ops.toArray[i]? = some o → EffOK P E ops.toArray n o effs[i]) (hT : okT n effs st) (hokE : ∀ o, ops.toArray[pq.2]? = some o → EffOK P E ops.toArray n o ea)
    {s : LState} {q : Prop} (he : evOps P E ops.toArray (ops.drop effs.length) (runT effs st) True = (s, q)) (hv : q) (h : Q .normal s) : LOK P V (.region id ops.toArray true) st Q := fun w0 B S0 R0 a w hV hi => by
  have hv' : (evOps P E ops.toArray (ops.drop effs.length) (runT effs st) True).2 := by rw [he]; exact hv
  have hs' : (evOps P E ops.toArray (ops.drop effs.length) (runT effs st) True).1 = s := by rw [he]
  refine wp_region_any hmx (draw_sound2 (M := masksOf ops []) (rest := ops.drop effs.length) (pre := ops.take effs.length) (q := True) E pq ea hexc hokE hn (by simp) (by simp; omega) ?_ hconf rfl hK hok hT hv' (fun a w hi' => ⟨_, h, by rw [← hs']; exact hi'⟩) _ _ _ _ (by simp) ?_ ?_ ?_ ?_)
  · intro k j h1 h2 h3
    unfold chainOK at hchain
    have := List.all_eq_true.1 hchain k (List.mem_range.2 h3)
    simp only [Bool.or_eq_true, decide_eq_true_eq] at this
    rcases this with h | h
    · omega
    · exact List.all_eq_true.1 h j (List.mem_range.2 h2)
  · intro j hj
    rw [Array.getD]; split <;> simp
  · intro j o ho hj
    rw [Array.getD] at hj
    split at hj <;> simp at hj
  · have hun : unlisted ops.toArray (Array.replicate ops.toArray.size false) = List.range ops.toArray.size := by
      unfold unlisted
      refine List.filter_eq_self.2 fun k hk => ?_
      rw [Array.getD]; split <;> simp
    rw [hun]; simp
  · have : ∀ (es : List Eff) (k : Nat) (s : LState), runX (fun j => (Array.replicate ops.toArray.size false).getD j false) k es s = s := by
      intro es
      induction es with
      | nil => intro k s; rfl
      | cons e es ihe =>
        intro k s
        simp only [runX]
        have : (Array.replicate ops.toArray.size false).getD k false = false := by rw [Array.getD]; split <;> simp
        rw [if_neg (by rw [this]; simp)]
        exact ihe (k + 1) s
    rw [this]
    exact inv_drawn hi
theorem lok_el2 (E : Env P) (n : Nat) (effs : List Eff) (pq : Nat × Nat) (ea : Eff) {id : Nat} {ops : List Oper} (st' : LState) (hmx : P.follows .mixedOrders = true) (hsame : sameK effs pq ea) (hconf : confOK2 pq ops.toArray effs (masksOf ops []) = true) (hchain : chainOK ops.toArray effs.length (masksOf ops []) = true) {l : List (Nat × SV)} {hl : List (Nat × Blk)} (hst : st = ⟨n, mkS l, mkH hl⟩) (hlen : (Nat.ble effs.length ops.length) = true) (hK : okK effs l hl = true) (k : Q .normal st')
    (hE : ∀ o, ops[pq.2]? = some o → EffOK P E ops.toArray n o ea)
    (hR : ea.reads (runT (effs.take pq.1 ++ (effs.drop (pq.1 + 1)).take (pq.2 - pq.1 - 1)) st))
    (h : allEff P E ops.toArray n ops effs ∧ okT n effs st ∧ (∀ s q, evOps P E ops.toArray (ops.drop effs.length) (runT effs st) True = (s, q) → q ∧ Imp V s st') := by
    skip
    refine ⟨?_, ?_, ?_⟩
    · (repeat' apply And.intro) <;> first | trivial | (intro st hn hr; have hr := And.intro hn hr; simp only [Eff.reads, allS, allO, and_true] at hr; exact And.intro (by first | (simp only [go_sem, ↓reduceIte, reduceCtorEq, Nat.reduceAdd, Nat.reduceMul, Nat.reduceSub, Nat.reduceLT, Nat.reduceLeDiff, Nat.reduceEqDiff, Nat.reduceBEq, Int.reduceToNat, hr]; done) | (simp only [go_sem, ↓reduceIte, reduceCtorEq, Nat.reduceAdd, Nat.reduceMul, Nat.reduceSub, Nat.reduceLT, Nat.reduceLeDiff, Nat.reduceEqDiff, Nat.reduceBEq, Int.reduceToNat, hr]; first | trivial | (repeat' first | apply And.intro | intro _) <;> first | trivial | assumption | rfl | omega | solve_by_elim | ((repeat' first | assumption | apply band_t | apply bnot_t | apply bor_l); done) | (simp only [go_sem, ↓reduceIte, reduceCtorEq, Nat.reduceAdd, Nat.reduceMul, Nat.reduceSub, Nat.reduceLT, Nat.reduceLeDiff, Nat.reduceEqDiff, Nat.reduceBEq, Int.reduceToNat, List.map_append, List.map_cons, List.map_nil, List.map_take, List.map_drop, map_rep, map_setI, List.take_append, List.length_append, List.length_drop, List.length_take, len_rep]; done) | (simp_all; done) | (simp_all; omega))) (by first | (simp only [go_sem, ↓reduceIte, reduceCtorEq, Nat.reduceAdd, Nat.reduceMul, Nat.reduceSub, Nat.reduceLT, Nat.reduceLeDiff, Nat.reduceEqDiff, Nat.reduceBEq, Int.reduceToNat, runT, Eff.app, Eff.wsA, Eff.wbA, dsOf, dbOf, isNew, noS, noL, noC, noB, Eff.appK, killO, killHO, updS, updH, okT, Eff.reads, allO, hr]; done) | (simp only [go_sem, ↓reduceIte, reduceCtorEq, Nat.reduceAdd, Nat.reduceMul, Nat.reduceSub, Nat.reduceLT, Nat.reduceLeDiff, Nat.reduceEqDiff, Nat.reduceBEq, Int.reduceToNat, List.map_append, List.map_cons, List.map_nil, List.map_take, List.map_drop, map_rep, map_setI, List.take_append, List.length_append, List.length_drop, List.length_take, len_rep, runT, Eff.app, Eff.wsA, Eff.wbA, dsOf, dbOf, isNew, noS, noL, noC, noB, Eff.appK, killO, killHO, updS, updH, okT, Eff.reads, allO, hr]; done) | (simp only [go_sem, ↓reduceIte, reduceCtorEq, Nat.reduceAdd, Nat.reduceMul, Nat.reduceSub, Nat.reduceLT, Nat.reduceLeDiff, Nat.reduceEqDiff, Nat.reduceBEq, Int.reduceToNat, runT, Eff.app, Eff.wsA, Eff.wbA, dsOf, dbOf, isNew, noS, noL, noC, noB, Eff.appK, killO, killHO, updS, updH, okT, Eff.reads, allO, upd_self, hr]; done)))
    · first | (simp only [go_sem, ↓reduceIte, reduceCtorEq, Nat.reduceAdd, Nat.reduceMul, Nat.reduceSub, Nat.reduceLT, Nat.reduceLeDiff, Nat.reduceEqDiff, Nat.reduceBEq, Int.reduceToNat, runT, Eff.app, Eff.wsA, Eff.wbA, dsOf, dbOf, isNew, noS, noL, noC, noB, Eff.appK, killO, killHO, updS, updH, okT, Eff.reads, allO]; done) | (simp only [go_sem, ↓reduceIte, reduceCtorEq, Nat.reduceAdd, Nat.reduceMul, Nat.reduceSub, Nat.reduceLT, Nat.reduceLeDiff, Nat.reduceEqDiff, Nat.reduceBEq, Int.reduceToNat, List.map_append, List.map_cons, List.map_nil, List.map_take, List.map_drop, map_rep, map_setI, List.take_append, List.length_append, List.length_drop, List.length_take, len_rep, runT, Eff.app, Eff.wsA, Eff.wbA, dsOf, dbOf, isNew, noS, noL, noC, noB, Eff.appK, killO, killHO, updS, updH, okT, Eff.reads, allO]; done) | (simp only [go_sem, ↓reduceIte, reduceCtorEq, Nat.reduceAdd, Nat.reduceMul, Nat.reduceSub, Nat.reduceLT, Nat.reduceLeDiff, Nat.reduceEqDiff, Nat.reduceBEq, Int.reduceToNat, List.map_append, List.map_cons, List.map_nil, List.map_take, List.map_drop, map_rep, map_setI, List.take_append, List.length_append, List.length_drop, List.length_take, len_rep, runT, Eff.app, Eff.wsA, Eff.wbA, dsOf, dbOf, isNew, noS, noL, noC, noB, Eff.appK, killO, killHO, updS, updH, okT, Eff.reads, allO]; (repeat' apply And.intro) <;> first | trivial | rfl | omega | (simp; done) | (simp_all; done))
    · intro s q he
      simp only [go_sem, ↓reduceIte, reduceCtorEq, Nat.reduceAdd, Nat.reduceMul, Nat.reduceSub, Nat.reduceLT, Nat.reduceLeDiff, Nat.reduceEqDiff, Nat.reduceBEq, Int.reduceToNat, runT, Eff.app, Eff.wsA, Eff.wbA, dsOf, dbOf, isNew, noS, noL, noC, noB, Eff.appK, killO, killHO, updS, updH, okT, Eff.reads, allO] at he
      obtain ⟨rfl, rfl⟩ := Prod.mk.inj he
      clear he
      refine ⟨?_, ?_⟩
      · first | trivial | (repeat' first | apply And.intro | intro _) <;> first | trivial | assumption | rfl | omega | solve_by_elim | ((repeat' first | assumption | apply band_t | apply bnot_t | apply bor_l); done) | (simp only [go_sem, ↓reduceIte, reduceCtorEq, Nat.reduceAdd, Nat.reduceMul, Nat.reduceSub, Nat.reduceLT, Nat.reduceLeDiff, Nat.reduceEqDiff, Nat.reduceBEq, Int.reduceToNat, List.map_append, List.map_cons, List.map_nil, List.map_take, List.map_drop, map_rep, map_setI, List.take_append, List.length_append, List.length_drop, List.length_take, len_rep]; done) | (simp_all; done) | (simp_all; omega)
      · refine imp_le rfl ?_ ?_ rfl rfl rfl
        · first | (simp only [go_sem, ↓reduceIte, reduceCtorEq, Nat.reduceAdd, Nat.reduceMul, Nat.reduceSub, Nat.reduceLT, Nat.reduceLeDiff, Nat.reduceEqDiff, Nat.reduceBEq, Int.reduceToNat, runT, Eff.app, Eff.wsA, Eff.wbA, dsOf, dbOf, isNew, noS, noL, noC, noB, Eff.appK, killO, killHO, updS, updH, okT, Eff.reads, allO]; done) | (simp only [go_sem, ↓reduceIte, reduceCtorEq, Nat.reduceAdd, Nat.reduceMul, Nat.reduceSub, Nat.reduceLT, Nat.reduceLeDiff, Nat.reduceEqDiff, Nat.reduceBEq, Int.reduceToNat, List.map_append, List.map_cons, List.map_nil, List.map_take, List.map_drop, map_rep, map_setI, List.take_append, List.length_append, List.length_drop, List.length_take, len_rep, runT, Eff.app, Eff.wsA, Eff.wbA, dsOf, dbOf, isNew, noS, noL, noC, noB, Eff.appK, killO, killHO, updS, updH, okT, Eff.reads, allO]; done) | (simp only [go_sem, ↓reduceIte, reduceCtorEq, Nat.reduceAdd, Nat.reduceMul, Nat.reduceSub, Nat.reduceLT, Nat.reduceLeDiff, Nat.reduceEqDiff, Nat.reduceBEq, Int.reduceToNat, List.map_append, List.map_cons, List.map_nil, List.map_take, List.map_drop, map_rep, map_setI, List.take_append, List.length_append, List.length_drop, List.length_take, len_rep, runT, Eff.app, Eff.wsA, Eff.wbA, dsOf, dbOf, isNew, noS, noL, noC, noB, Eff.appK, killO, killHO, updS, updH, okT, Eff.reads, allO]; (repeat' apply And.intro) <;> first | trivial | rfl | omega | (simp; done) | (simp_all; done))
        · first | (simp only [go_sem, ↓reduceIte, reduceCtorEq, Nat.reduceAdd, Nat.reduceMul, Nat.reduceSub, Nat.reduceLT, Nat.reduceLeDiff, Nat.reduceEqDiff, Nat.reduceBEq, Int.reduceToNat, runT, Eff.app, Eff.wsA, Eff.wbA, dsOf, dbOf, isNew, noS, noL, noC, noB, Eff.appK, killO, killHO, updS, updH, okT, Eff.reads, allO]; done) | (simp only [go_sem, ↓reduceIte, reduceCtorEq, Nat.reduceAdd, Nat.reduceMul, Nat.reduceSub, Nat.reduceLT, Nat.reduceLeDiff, Nat.reduceEqDiff, Nat.reduceBEq, Int.reduceToNat, List.map_append, List.map_cons, List.map_nil, List.map_take, List.map_drop, map_rep, map_setI, List.take_append, List.length_append, List.length_drop, List.length_take, len_rep, runT, Eff.app, Eff.wsA, Eff.wbA, dsOf, dbOf, isNew, noS, noL, noC, noB, Eff.appK, killO, killHO, updS, updH, okT, Eff.reads, allO]; done) | (simp only [go_sem, ↓reduceIte, reduceCtorEq, Nat.reduceAdd, Nat.reduceMul, Nat.reduceSub, Nat.reduceLT, Nat.reduceLeDiff, Nat.reduceEqDiff, Nat.reduceBEq, Int.reduceToNat, List.map_append, List.map_cons, List.map_nil, List.map_take, List.map_drop, map_rep, map_setI, List.take_append, List.length_append, List.length_drop, List.length_take, len_rep, runT, Eff.app, Eff.wsA, Eff.wbA, dsOf, dbOf, isNew, noS, noL, noC, noB, Eff.appK, killO, killHO, updS, updH, okT, Eff.reads, allO]; (repeat' apply And.intro) <;> first | trivial | rfl | omega | (simp; done) | (simp_all; done))) : LOK P V (.region id ops.toArray true) st Q :=
  have h3 := h.2.2 _ _ rfl
  lok_imp_post (lok_region_eff2 E effs pq ea (excOK_of hsame hR) hmx (by rw [hst]) (Nat.le_of_ble_eq_true hlen) hconf hchain (by rw [hst]; exact killOK_of hK) (fun i hi o ho => allEff_at ops effs h.1 i hi o (by simpa using ho)) h.2.1 (fun o ho => hE o (by simpa using ho)) rfl h3.1 ⟨st', h3.2, k⟩)
end
end Go.LS
