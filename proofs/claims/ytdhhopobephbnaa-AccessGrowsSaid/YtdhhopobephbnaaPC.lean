/-
  The rules of access: what the functions compute, in closed form.
  Conditions: lists of lengths that a machine can hold.
-/
import Derived.Test.YtdhhopobephbnaaPB
namespace Go.LS
set_option linter.all false
set_option linter.unusedSimpArgs false
set_option linter.unusedVariables false
set_option maxRecDepth 20000

def isDeg (n : Int) : Bool := decide ((1 : Int) ≤ n) && decide (n ≤ (9 : Int))
def okA (a : api_Access) : Bool := decide ((0 : Int) ≤ a.Extra) && decide (a.Extra ≤ (100 : Int)) && decide ((0 : Int) ≤ a.Needs) && decide (a.Needs ≤ (63 : Int))
theorem isDegree_eq (n : Int) : access_isDegree n = some (isDeg n) := rfl
theorem level_eq (n : Int) : ref14_level n = some (isDeg n) := rfl
theorem valid_eq (a : api_Access) : access_valid a = some (okA a) := rfl
theorem Valid_eq (a : api_Access) : ref14_Valid a = some (okA a) := rfl
def accR (r : api_AccessRule) : api_Access := ⟨r.Extra, r.Needs⟩
def badR (r : api_AccessRule) : Bool := !isDeg r.Kind || !isDeg r.Least || !okA (accR r)
def checkOf (l : List api_AccessRule) : Int := if 12 < l.length then 3 else if l.any badR = true then 2 else 0
theorem Check_same (l : List api_AccessRule) : ref14_Check l = access_Check l := rfl
theorem Check_eq (l : List api_AccessRule) : access_Check l = some (checkOf l) := by
  unfold access_Check checkOf
  rcases bcases (decide ((12 : Int) < (l.length : Int))) with h | h <;> rw [h]
  · have : 12 < l.length := by simp at h; omega
    rw [cond_true, if_pos this]
  · have hl : ¬ 12 < l.length := by simp at h; omega
    rw [cond_false, if_neg hl, iter_scan l _ badR (fun _ => .inr 2) (.inl ()), ]
    · rw [find_any]
      split <;> rfl
    · intro k hk
      simp only [access_Check_l2, ix_nat l k hk, isDegree_eq, valid_eq, Option.bind, Option.isSome_some, Option.getD_some, implies_true, and_self, req_true]
      rw [req_pos (by omega), i64_add1 k (by omega)]
      rw [show decide ((k : Int) < (l.length : Int)) = true by simp; omega, cond_true]
      show (bif badR l[k] then _ else _) = _
      cases badR l[k] <;> rfl
    · simp [access_Check_l2]
def appE (r : api_AccessRule) (c t : Int) (e : api_Evidence) : Bool := (e.Candidate == c) && isDeg e.Kind && isDeg e.Level && decide (e.From ≤ t) && decide (t ≤ e.Until) && (e.Kind == r.Kind) && decide (r.Least ≤ e.Level)
def appOf (r : api_AccessRule) (l : List api_Evidence) (c t : Int) : Bool := l.any (appE r c t)
theorem bnot_or (a b : Bool) : (!(a || b)) = (!a && !b) := by cases a <;> rfl
theorem applies_eq (r : api_AccessRule) (l : List api_Evidence) (c t : Int) (hl : l.length ≤ 1000000) : access_applies r l c t = some (appOf r l c t) := by
  unfold access_applies appOf
  rw [iter_scan l _ (appE r c t) (fun _ => .inr true) (.inl ())]
  · rw [find_any]
    cases l.any (appE r c t) <;> rfl
  · intro k hk
    simp only [access_applies_l3, access_applies_j2, ix_nat l k hk, isDegree_eq, Option.isSome_some, Option.getD_some, implies_true, and_self, req_true]
    rw [req_pos (by omega), i64_add1 k (by omega)]
    rw [show decide ((k : Int) < (l.length : Int)) = true by simp; omega, cond_true]
    generalize l[k] = e
    have key : appE r c t e = (!((((((e.Candidate != c) || (!isDeg e.Kind)) || (!isDeg e.Level)) || (decide (t < e.From))) || (decide (e.Until < t)))) && ((e.Kind == r.Kind) && (decide (r.Least ≤ e.Level)))) := by
      unfold appE
      rw [Bool.eq_iff_iff]
      simp only [Bool.and_eq_true, Bool.not_eq_true', Bool.or_eq_false_iff, bne_eq_false_iff_eq, beq_iff_eq, Bool.not_eq_false', decide_eq_true_eq, decide_eq_false_iff_not, Int.not_lt]
      constructor
      · rintro ⟨⟨⟨⟨⟨⟨h1, h2⟩, h3⟩, h4⟩, h5⟩, h6⟩, h7⟩; exact ⟨⟨⟨⟨⟨h1, h2⟩, h3⟩, h4⟩, h5⟩, h6, h7⟩
      · rintro ⟨⟨⟨⟨⟨h1, h2⟩, h3⟩, h4⟩, h5⟩, h6, h7⟩; exact ⟨⟨⟨⟨⟨⟨h1, h2⟩, h3⟩, h4⟩, h5⟩, h6⟩, h7⟩
    rw [key]
    cases ((((e.Candidate != c) || (!isDeg e.Kind)) || (!isDeg e.Level)) || (decide (t < e.From))) || (decide (e.Until < t)) <;> cases (e.Kind == r.Kind) && (decide (r.Least ≤ e.Level)) <;> rfl
  · simp [access_applies_l3]
theorem applies_eq' (r : api_AccessRule) (l : List api_Evidence) (c t : Int) (hl : l.length ≤ 1000000) : ref14_applies r l c t = some (appOf r l c t) := by
  unfold ref14_applies appOf
  rw [iter_scan l _ (appE r c t) (fun _ => .inr true) (.inl ())]
  · rw [find_any]
    cases l.any (appE r c t) <;> rfl
  · intro k hk
    simp only [ref14_applies_l2, ix_nat l k hk, level_eq, Option.isSome_some, Option.getD_some, implies_true, and_self, req_true]
    rw [req_pos (by omega), i64_add1 k (by omega)]
    rw [show decide ((k : Int) < (l.length : Int)) = true by simp; omega, cond_true]
    show (bif appE r c t l[k] then _ else _) = _
    cases appE r c t l[k] <;> rfl
  · simp [ref14_applies_l2]
/-- the indices of the elements with a property, from k on -/
def idx {α : Type} (p : α → Bool) : Nat → List α → List Int
  | _, [] => []
  | k, a :: l => if p a = true then (k : Int) :: idx p (k + 1) l else idx p (k + 1) l
theorem idx_append {α : Type} (p : α → Bool) : ∀ (l m : List α) (k : Nat), idx p k (l ++ m) = idx p k l ++ idx p (k + l.length) m
  | [], m, k => by simp [idx]
  | a :: l, m, k => by
    simp only [List.cons_append, idx, idx_append p l m (k + 1), List.length_cons]
    rw [show k + 1 + l.length = k + (l.length + 1) by omega]
    split <;> rfl
theorem idx_take {α : Type} (p : α → Bool) (l : List α) (k : Nat) (hk : k < l.length) : idx p 0 (l.take (k + 1)) = idx p 0 (l.take k) ++ if p l[k] = true then [(k : Int)] else [] := by
  rw [List.take_succ_eq_append_getElem hk, idx_append]
  simp [idx, Nat.min_eq_left (Nat.le_of_lt hk)]
theorem idx_len {α : Type} (p : α → Bool) : ∀ (l : List α) (k : Nat), (idx p k l).length ≤ l.length
  | [], k => by simp [idx]
  | a :: l, k => by
    simp only [idx]
    have := idx_len p l (k + 1)
    split <;> simp <;> omega
theorem idx_map {α β : Type} [Inhabited α] (p : α → Bool) (g : α → β) (L : List α) : ∀ (l pre : List α), L = pre ++ l → (idx p pre.length l).map (fun n => g (ix L n)) = (l.filter p).map g
  | [], _, _ => rfl
  | a :: l, pre, h => by
    have ih := idx_map p g L l (pre ++ [a]) (by simp [h])
    rw [List.length_append, List.length_singleton] at ih
    have hlt : pre.length < L.length := by rw [h]; simp
    have ha : ix L (pre.length : Int) = a := by rw [ix_nat L _ hlt]; simp [h]
    simp only [idx, List.filter_cons]
    split <;> simp [ih, ha]
theorem idx_range {α : Type} (p : α → Bool) : ∀ (l : List α) (k : Nat), ∀ n ∈ idx p k l, (k : Int) ≤ n ∧ n < (k + l.length : Nat)
  | [], k, n, h => by simp [idx] at h
  | a :: l, k, n, h => by
    have ih := idx_range p l (k + 1)
    simp only [idx] at h
    split at h
    · rcases List.mem_cons.1 h with rfl | h
      · simp; omega
      · have := ih n h; simp at this ⊢; omega
    · have := ih n h; simp at this ⊢; omega
def reasonsOf (rules : List api_AccessRule) (l : List api_Evidence) (c t : Int) : List Int := if checkOf rules = 0 then idx (fun r => appOf r l c t) 0 rules else []
theorem iter_idx {α : Type} (l : List α) (f : Int × List Int → Option ((Int × List Int) ⊕ List Int)) (p : α → Bool)
    (hstep : ∀ (k : Nat) (b : List Int) (hk : k < l.length), b.length ≤ k → f ((k : Int), b) = some (.inl (((k + 1 : Nat) : Int), if p l[k] = true then b ++ [(k : Int)] else b)))
    (hend : ∀ b, f ((l.length : Int), b) = some (.inr b)) : iter f ((0 : Int), []) = some (idx p 0 l) := by
  have key : ∀ (n k : Nat), l.length - k = n → k ≤ l.length → iter f ((k : Int), idx p 0 (l.take k)) = some (idx p 0 l) := by
    intro n
    induction n with
    | zero =>
      intro k hn hk
      have : k = l.length := by omega
      subst this
      rw [iter_inr (hend _), List.take_length]
    | succ n ih =>
      intro k hn hk
      have hk' : k < l.length := by omega
      have hlen := idx_len p (l.take k) 0
      rw [iter_inl (hstep k _ hk' (by simp at hlen; omega))]
      have := ih (k + 1) (by omega) (by omega)
      rw [idx_take p l k hk'] at this
      rw [← this]
      congr 2
      split <;> simp
  have := key _ 0 rfl (by omega)
  simpa [idx] using this
theorem checkOf_len {l : List api_AccessRule} (h : checkOf l = 0) : l.length ≤ 12 ∧ l.any badR = false := by
  unfold checkOf at h
  split at h
  · cases h
  · split at h
    · cases h
    · rename_i h1 h2; exact ⟨by omega, by simpa using h2⟩
theorem Reasons_eq (rules : List api_AccessRule) (l : List api_Evidence) (c t : Int) (hl : l.length ≤ 1000000) : access_Reasons rules l c t = some (reasonsOf rules l c t) := by
  unfold access_Reasons reasonsOf
  rw [Check_eq]
  simp only [Option.bind]
  by_cases h : checkOf rules = 0
  · obtain ⟨h12, _⟩ := checkOf_len h
    rw [h, if_pos rfl, show ((0 : Int) != 0) = false by decide, cond_false, iter_idx rules _ (fun r => appOf r l c t)]
    · rfl
    · intro k b hk hb
      simp only [access_Reasons_l3, access_Reasons_j2, ix_nat rules k hk, applies_eq _ l c t hl, Option.bind]
      rw [req_pos (by omega), i64_add1 k (by omega), show decide ((k : Int) < (rules.length : Int)) = true by simp; omega, cond_true]
      cases appOf rules[k] l c t
      · rfl
      · rw [cond_true, req_pos (by simp; omega)]; rfl
    · intro b; simp [access_Reasons_l3]
  · rw [if_neg h, show (checkOf rules != 0) = true by simpa using h, cond_true]
theorem Reasons_eq' (rules : List api_AccessRule) (l : List api_Evidence) (c t : Int) (hl : l.length ≤ 1000000) : ref14_Reasons rules l c t = some (reasonsOf rules l c t) := by
  unfold ref14_Reasons reasonsOf
  rw [Check_same, Check_eq]
  simp only [Option.bind]
  by_cases h : checkOf rules = 0
  · obtain ⟨h12, _⟩ := checkOf_len h
    rw [h, if_pos rfl, show ((0 : Int) != 0) = false by decide, cond_false, iter_idx rules _ (fun r => appOf r l c t)]
    · rfl
    · intro k b hk hb
      simp only [ref14_Reasons_l3, ref14_Reasons_j2, ix_nat rules k hk, applies_eq' _ l c t hl, Option.bind]
      rw [req_pos (by omega), i64_add1 k (by omega), show decide ((k : Int) < (rules.length : Int)) = true by simp; omega, cond_true]
      cases appOf rules[k] l c t
      · rfl
      · rw [cond_true, req_pos (by simp; omega)]; rfl
    · intro b; simp [ref14_Reasons_l3]
  · rw [if_neg h, show (checkOf rules != 0) = true by simpa using h, cond_true]
def jo (s a : api_Access) : api_Access := ⟨imax s.Extra a.Extra, bOr .i64 s.Needs a.Needs⟩
def joined (l : List api_Access) : api_Access := l.foldl jo ⟨0, 0⟩
theorem joined_eq (l : List api_Access) (hl : l.length ≤ 1000000) : access_joined l = some (joined l) := by
  unfold access_joined joined
  have := iter_fold l (access_joined_l2 l) (fun (b : Int × Int) a => (imax b.1 a.Extra, bOr .i64 b.2 a.Needs)) (fun b => b) (fun _ _ => True) (fun k b hk _ => by
    refine ⟨?_, trivial⟩
    simp only [access_joined_l2, ix_nat l k hk]
    rw [req_pos (by omega), i64_add1 k (by omega), show decide ((k : Int) < (l.length : Int)) = true by simp; omega, cond_true]) (fun b _ => by simp [access_joined_l2]) (0, 0) trivial
  rw [this]
  simp only [Option.bind, access_joined_j1]
  have key : ∀ (l : List api_Access) (b : Int × Int), (⟨(l.foldl (fun (b : Int × Int) a => (imax b.1 a.Extra, bOr .i64 b.2 a.Needs)) b).1, (l.foldl (fun (b : Int × Int) a => (imax b.1 a.Extra, bOr .i64 b.2 a.Needs)) b).2⟩ : api_Access) = l.foldl jo ⟨b.1, b.2⟩ := by
    intro l
    induction l with
    | nil => intro b; rfl
    | cons a l ih => intro b; simp only [List.foldl_cons]; rw [ih]; rfl
  exact congrArg some (key l (0, 0))
def impl (a : api_Access) : api_Access :=
  if okA a = false then ⟨0, 0⟩ else if ((bAnd .i64 a.Needs 24 != 0) || decide ((25 : Int) < a.Extra)) = true then ⟨a.Extra, bOr .i64 a.Needs 1⟩ else a
theorem Imply_eq (a : api_Access) : access_Imply a = some (impl a) := by
  unfold access_Imply impl access_Imply_j1
  rw [valid_eq]
  simp only [Option.bind]
  cases okA a
  · rfl
  · simp only [Bool.not_true, cond_false, Bool.true_eq_false, if_false]
    cases (bAnd .i64 a.Needs 24 != 0) || decide ((25 : Int) < a.Extra) <;> rfl
def grantOf (rules : List api_AccessRule) (l : List api_Evidence) (c t : Int) : api_Access × Int :=
  if checkOf rules = 0 then (impl (joined ((rules.filter fun r => appOf r l c t).map accR)), 0) else (⟨0, 0⟩, checkOf rules)
theorem Grant_eq (rules : List api_AccessRule) (l : List api_Evidence) (c t : Int) (hl : l.length ≤ 1000000) : access_Grant rules l c t = some (grantOf rules l c t) := by
  unfold access_Grant grantOf
  rw [Check_eq]
  simp only [Option.bind]
  by_cases h : checkOf rules = 0
  · obtain ⟨h12, _⟩ := checkOf_len h
    rw [h, if_pos rfl, show ((0 : Int) != 0) = false by decide, cond_false, Reasons_eq _ _ _ _ hl]
    simp only [reasonsOf, h, if_true]
    have hlen := idx_len (fun r => appOf r l c t) rules 0
    have hr := idx_range (fun r => appOf r l c t) rules 0
    generalize hI : idx (fun r => appOf r l c t) 0 rules = I at *
    have := iter_fold I (access_Grant_l2 rules I) (fun (b : List api_Access) n => b ++ [accR (ix rules n)]) (fun b => b) (fun k b => b.length = k) (fun k b hk hb => by
      have hm := hr I[k] (List.getElem_mem hk)
      refine ⟨?_, by simp [hb]⟩
      simp only [access_Grant_l2, ix_nat I k hk]
      rw [req_pos (by omega), req_pos (by refine ⟨by simp at hm; omega, ?_⟩; simp; omega), i64_add1 k (by omega), show decide ((k : Int) < (I.length : Int)) = true by simp; omega, cond_true]
      rfl) (fun b _ => by simp [access_Grant_l2]) [] rfl
    rw [this]
    have hf : ∀ (I : List Int) (b : List api_Access), I.foldl (fun (b : List api_Access) n => b ++ [accR (ix rules n)]) b = b ++ I.map (fun n => accR (ix rules n)) := by
      intro I
      induction I with
      | nil => intro b; simp
      | cons a I ih => intro b; simp [ih]
    have hm := idx_map (fun r => appOf r l c t) accR rules rules [] rfl
    simp only [List.length_nil, hI] at hm
    simp only [access_Grant_j1, hf, List.nil_append, hm]
    rw [joined_eq _ (by simp; have := List.length_filter_le (fun r => appOf r l c t) rules; omega)]
    simp only [Option.bind, Imply_eq]
  · rw [if_neg h, show (checkOf rules != 0) = true by simpa using h, cond_true]
theorem awake_eq : law14_awake = some true := by
  unfold law14_awake
  rw [Grant_eq _ _ _ _ (by decide)]
  have h1 : grantOf [⟨1, 5, 25, 0⟩, ⟨2, 3, 0, 16⟩] [⟨1, 1, 6, 0, 9⟩, ⟨1, 2, 3, 0, 9⟩] 1 5 = (⟨25, 17⟩, 0) := by decide
  have h2 : access_Minutes 90 ⟨25, 32⟩ = some (128, 0) := by
    unfold access_Minutes access_Minutes_j1
    rw [valid_eq, show okA ⟨25, 32⟩ = true by decide]
    simp only [Option.bind]
    rw [show (bAnd .i64 (32 : Int) 32 != 0) = true by decide]
    decide
  simp only [h1, h2, Option.bind]
  decide
end Go.LS
