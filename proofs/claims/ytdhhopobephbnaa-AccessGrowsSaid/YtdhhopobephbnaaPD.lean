/-
  The laws of access as plain facts.
  Conditions: none but those of the statements.
-/
import Derived.Test.YtdhhopobephbnaaPC
namespace Go.LS
set_option linter.all false
set_option linter.unusedSimpArgs false
set_option linter.unusedVariables false
set_option maxRecDepth 20000

theorem pick_bind (t : make_Tape) (l : List Int) (h : TOK t) (h1 : 1 ≤ l.length) (h2 : l.length ≤ 1000) : ∃ y t', ((make_Tape_Pick t l).bind fun (y, y1) => some (y, y1)) = some (y, t') ∧ TOK t' := by
  obtain ⟨y, t', e, h3, _⟩ := pick_ok t l h h1 h2
  exact ⟨y, t', by rw [e]; rfl, h3⟩
theorem okA_iff (a : api_Access) : okA a = true ↔ 0 ≤ a.Extra ∧ a.Extra ≤ 100 ∧ 0 ≤ a.Needs ∧ a.Needs ≤ 63 := by
  simp [okA]; omega
theorem wild_ok (t : make_Tape) (h : TOK t) : ∃ y t', make_Tape_Wild t = some (y, t') ∧ TOK t' := by
  unfold make_Tape_Wild
  exact pick_bind t _ h (by decide) (by decide)
theorem spoil_ok (t : make_Tape) (x n : Int) (h : TOK t) (hn : n ≤ 4611686018427387904) : ∃ y t', make_Tape_Spoil t x n = some (y, t') ∧ TOK t' ∧ (n ≤ 0 → y = x ∧ t' = t) := by
  unfold make_Tape_Spoil
  rcases bcases (decide ((0 : Int) < n)) with hc | hc <;> rw [hc]
  · have h0 : 0 < n := by simpa using hc
    obtain ⟨y, t', e, h1⟩ := one_ok t n h hn
    rw [cond_true, e]
    simp only [Option.bind]
    cases y
    · exact ⟨_, _, rfl, h1, by omega⟩
    · obtain ⟨z, t2, e2, h2⟩ := wild_ok t' h1
      rw [cond_true, e2]
      exact ⟨_, _, rfl, h2, by omega⟩
  · exact ⟨_, _, rfl, h, fun _ => ⟨rfl, rfl⟩⟩
theorem any_snoc {α : Type} (p : α → Bool) (l : List α) (a : α) (h : l.any p = false) (ha : p a = false) : (l ++ [a]).any p = false := by simp [List.any_append, h, ha]
theorem rules_ok (t : make_Tape) (n : Int) (h : TOK t) (hn : n ≤ 4611686018427387904) : ∃ y t', make_Tape_Rules t n = some (y, t') ∧ TOK t' ∧ y.length ≤ 7 ∧ (n ≤ 0 → checkOf y = 0) := by
  unfold make_Tape_Rules
  obtain ⟨i, t1, e1, h1, h2, h3, _⟩ := next_ok t 6 h (by omega)
  rw [e1]
  simp only [Option.bind]
  have h6 := h3 (by omega)
  obtain ⟨⟨L, A, out⟩, e2, g1, g2, g3⟩ := iter_inv (f := make_Tape_Rules_l3) (fun s => 0 ≤ s.1 ∧ s.1 + s.2.2.2.length ≤ 6 ∧ TOK ⟨s.2.1, s.2.2.1⟩ ∧ s.2.2.2.any badR = false) (fun s => s.1.toNat)
    (fun r => TOK ⟨r.1, r.2.1⟩ ∧ r.2.2.length ≤ 6 ∧ r.2.2.any badR = false) (by
      rintro ⟨i, L, A, out⟩ ⟨k1, k2, k3, k4⟩
      simp only at k1 k2 k3 k4
      simp only [make_Tape_Rules_l3]
      rcases bcases (decide ((0 : Int) < i)) with hc | hc <;> rw [hc]
      · left
        have hi : 0 < i := by simpa using hc
        obtain ⟨a, ta, ea, ha, a1, a2⟩ := range_ok ⟨L, A⟩ 1 3 k3 (by omega) (by omega) (by omega)
        obtain ⟨b, tb, eb, hb, b1, b2⟩ := range_ok ta 1 9 ha (by omega) (by omega) (by omega)
        obtain ⟨c, tc, ec, hc', c1⟩ := pick_ok tb [(0 : Int), (10 : Int), (25 : Int), (26 : Int), (50 : Int), (100 : Int)] hb (by decide) (by decide)
        obtain ⟨d, td, ed, hd, d1⟩ := pick_ok tc [(0 : Int), (2 : Int), (4 : Int), (8 : Int), (16 : Int), (32 : Int), (6 : Int), (63 : Int)] hc' (by decide) (by decide)
        simp only [cond_true, ea, eb, ec, ed, Option.bind]
        rw [req_pos (by simp; omega), wrap64 (by omega) (by omega)]
        have hgood : badR ⟨a, b, c, d⟩ = false := by
          have c2 : 0 ≤ c ∧ c ≤ 100 := by simp at c1; omega
          have d2 : 0 ≤ d ∧ d ≤ 63 := by simp at d1; omega
          have k5 : isDeg a = true := by simp [isDeg]; omega
          have k6 : isDeg b = true := by simp [isDeg]; omega
          have k7 : okA (accR ⟨a, b, c, d⟩) = true := (okA_iff _).2 ⟨c2.1, c2.2, d2.1, d2.2⟩
          simp [badR, k5, k6, k7]
        refine ⟨_, rfl, ⟨by show 0 ≤ i - 1; omega, by simp; omega, hd, any_snoc _ _ _ k4 hgood⟩, ?_⟩
        show (i - 1).toNat < i.toNat
        omega
      · right
        exact ⟨_, rfl, k3, by show out.length ≤ 6; omega, k4⟩) (i, t1.L, t1.At, []) ⟨h2, by simp; omega, h1, rfl⟩
  simp only at g1 g2 g3
  rw [e2]
  simp only [make_Tape_Rules_j2, make_Tape_Rules_j1]
  have hck : checkOf out = 0 := by
    unfold checkOf
    rw [if_neg (by omega), g3]; rfl
  rcases bcases (decide ((0 : Int) < n)) with hc | hc <;> rw [hc]
  · have h0 : 0 < n := by simpa using hc
    obtain ⟨y, t', e, k1⟩ := one_ok ⟨L, A⟩ n g1 hn
    rw [cond_true, e]
    simp only [Option.bind]
    cases y
    · exact ⟨_, _, rfl, k1, by omega, by omega⟩
    · obtain ⟨a, ta, ea, ha, a1⟩ := pick_ok t' [(0 : Int), (1 : Int), (9 : Int), (10 : Int)] k1 (by decide) (by decide)
      obtain ⟨b, tb, eb, hb, b1⟩ := pick_ok ta [(0 : Int), (1 : Int), (9 : Int), (10 : Int)] ha (by decide) (by decide)
      obtain ⟨c, tc, ec, hc', c1⟩ := pick_ok tb [(-1 : Int), (0 : Int), (100 : Int), (101 : Int)] hb (by decide) (by decide)
      obtain ⟨d, td, ed, hd, d1⟩ := pick_ok tc [(-1 : Int), (0 : Int), (63 : Int), (64 : Int)] hc' (by decide) (by decide)
      simp only [cond_true, ea, eb, ec, ed]
      rw [req_pos (by simp; omega)]
      exact ⟨_, _, rfl, hd, by simp; omega, by omega⟩
  · exact ⟨_, _, rfl, g1, by omega, fun _ => hck⟩
theorem evidence_ok (t : make_Tape) (h : TOK t) : ∃ y t', make_Tape_Evidence t = some (y, t') ∧ TOK t' ∧ y.length ≤ 6 := by
  unfold make_Tape_Evidence
  obtain ⟨i, t1, e1, h1, h2, h3, _⟩ := next_ok t 7 h (by omega)
  rw [e1]
  simp only [Option.bind]
  have h6 := h3 (by omega)
  obtain ⟨⟨L, A, out⟩, e2, g1, g2⟩ := iter_inv (f := make_Tape_Evidence_l2) (fun s => 0 ≤ s.1 ∧ s.1 + s.2.2.2.length ≤ 6 ∧ TOK ⟨s.2.1, s.2.2.1⟩) (fun s => s.1.toNat)
    (fun r => TOK ⟨r.1, r.2.1⟩ ∧ r.2.2.length ≤ 6) (by
      rintro ⟨i, L, A, out⟩ ⟨k1, k2, k3⟩
      simp only at k1 k2 k3
      simp only [make_Tape_Evidence_l2]
      rcases bcases (decide ((0 : Int) < i)) with hc | hc <;> rw [hc]
      · left
        have hi : 0 < i := by simpa using hc
        obtain ⟨a, ta, ea, ha, _, _⟩ := range_ok ⟨L, A⟩ 0 20 k3 (by omega) (by omega) (by omega)
        obtain ⟨b, tb, eb, hb, _⟩ := next_ok ta 2 ha (by omega)
        obtain ⟨c, tc, ec, hc', _, _⟩ := range_ok tb 1 3 hb (by omega) (by omega) (by omega)
        obtain ⟨d, td, ed, hd, _⟩ := spoil_ok tc c 10 hc' (by omega)
        obtain ⟨e, te, ee, he, _, _⟩ := range_ok td 1 9 hd (by omega) (by omega) (by omega)
        obtain ⟨f, tf, ef, hf, _⟩ := spoil_ok te e 10 he (by omega)
        obtain ⟨g, tg, eg, hg, _, _⟩ := range_ok tf (-1) 12 hf (by omega) (by omega) (by omega)
        simp only [cond_true, ea, eb, ec, ed, ee, ef, eg, Option.bind]
        rw [req_pos (by simp; omega), wrap64 (n := i - 1) (by omega) (by omega)]
        refine ⟨_, rfl, ⟨by show 0 ≤ i - 1; omega, by simp; omega, hg⟩, ?_⟩
        show (i - 1).toNat < i.toNat
        omega
      · right
        exact ⟨_, rfl, k3, by show out.length ≤ 6; omega⟩) (i, t1.L, t1.At, []) ⟨h2, by simp; omega, h1⟩
  rw [e2]
  exact ⟨_, _, rfl, g1, g2⟩

theorem pure_AccessChecks (t : List Int) (kind least extra needs : Int) : law14_AccessChecks t kind least extra needs = some true := by
  unfold law14_AccessChecks
  obtain ⟨t1, e1, h1⟩ := new_ok t
  obtain ⟨y, t2, e2, h2, h3, _⟩ := rules_ok t1 3 h1 (by omega)
  simp only [e1, e2, Option.bind, Check_same, Check_eq, Option.isSome_some, Option.getD_some, awake_eq]
  rw [req_pos (by refine ⟨by omega, ?_⟩; simp; omega)]
  simp [req]

theorem pure_AccessOthers (t : List Int) (time : Int) : law14_AccessOthers t time = some true := by
  unfold law14_AccessOthers
  obtain ⟨t1, e1, h1⟩ := new_ok t
  obtain ⟨y, t2, e2, h2, h3, h4⟩ := rules_ok t1 0 h1 (by omega)
  obtain ⟨l, t3, e3, h5, h6⟩ := evidence_ok t2 h2
  obtain ⟨u, e4, u1, u2, _⟩ := cut_ok time 30 (by omega)
  have u3 := u2 (by omega)
  simp only [e1, e2, e3, e4, Option.bind, bindV]
  rw [wrap64 (n := u + 1) (by omega) (by omega), wrap64 (n := u - 1) (by omega) (by omega), req_pos (by refine ⟨by omega, ?_⟩; simp; omega), Grant_eq _ _ _ _ (by omega), Grant_eq _ _ _ _ (by simp; omega)]
  have key : ∀ r : api_AccessRule, appOf r (l ++ [⟨1, 1, 9, 0, 99⟩, ⟨0, 1, 9, u + 1, 99⟩, ⟨0, 1, 10, 0, 99⟩, ⟨0, 10, 9, 0, 99⟩, ⟨0, 1, 9, -9, u - 1⟩]) 0 u = appOf r l 0 u := by
    intro r
    have a1 : appE r 0 u ⟨1, 1, 9, 0, 99⟩ = false := by simp [appE]
    have a2 : appE r 0 u ⟨0, 1, 9, u + 1, 99⟩ = false := by simp [appE]; omega
    have a3 : appE r 0 u ⟨0, 1, 10, 0, 99⟩ = false := by simp [appE, isDeg]
    have a4 : appE r 0 u ⟨0, 10, 9, 0, 99⟩ = false := by simp [appE, isDeg]
    have a5 : appE r 0 u ⟨0, 1, 9, -9, u - 1⟩ = false := by simp [appE]; omega
    simp [appOf, List.any_append, a1, a2, a3, a4, a5]
  have hg : grantOf y (l ++ [⟨1, 1, 9, 0, 99⟩, ⟨0, 1, 9, u + 1, 99⟩, ⟨0, 1, 10, 0, 99⟩, ⟨0, 10, 9, 0, 99⟩, ⟨0, 1, 9, -9, u - 1⟩]) 0 u = grantOf y l 0 u := by
    simp only [grantOf, key]
  rw [hg]
  have h0 : (grantOf y l 0 u).2 = 0 := by simp [grantOf, h4 (by omega)]
  simp only [h0, awake_eq, Option.isSome_some, Option.getD_some, implies_true]
  simp [req]

/-! ### Grants -/
theorem nat_of {n : Int} (h : 0 ≤ n) : ∃ m : Nat, n = m := ⟨n.toNat, by omega⟩
theorem jo_ok {a b : api_Access} (ha : okA a = true) (hb : okA b = true) : okA (jo a b) = true := by
  rw [okA_iff] at *
  obtain ⟨a1, a2, a3, a4⟩ := ha
  obtain ⟨b1, b2, b3, b4⟩ := hb
  obtain ⟨m, hm⟩ := nat_of a3
  obtain ⟨n, hn⟩ := nat_of b3
  have h := Nat.or_lt_two_pow (x := m) (y := n) (n := 6) (by omega) (by omega)
  have e : (jo a b).Needs = ((m ||| n : Nat) : Int) := by
    show bOr .i64 a.Needs b.Needs = _
    rw [hm, hn, bOr_nat _ _ (by omega) (by omega)]
  refine ⟨?_, ?_, by rw [e]; omega, by rw [e]; omega⟩
  · show 0 ≤ imax a.Extra b.Extra
    unfold imax; split <;> omega
  · show imax a.Extra b.Extra ≤ 100
    unfold imax; split <;> omega
theorem joinR_eq (a b : api_Access) : ref14_Join a b = some (if okA a = true ∧ okA b = true then jo a b else ⟨0, 0⟩) := by
  unfold ref14_Join
  simp only [Valid_eq, Option.bind, Option.isSome_some, Option.getD_some, implies_true, req_true]
  cases okA a <;> cases okA b <;> simp [jo]
theorem and24 : ∀ n, n < 64 → ((n &&& 24) != 0) = (((n &&& 8) != 0) || ((n &&& 16) != 0)) := by decide
theorem implyR_eq (a : api_Access) : ref14_Imply a = some (impl a) := by
  unfold ref14_Imply ref14_Imply_j1 impl
  rw [Valid_eq]
  simp only [Option.bind]
  cases h : okA a
  · rfl
  · obtain ⟨a1, a2, a3, a4⟩ := (okA_iff a).1 h
    obtain ⟨m, hm⟩ := nat_of a3
    have e8 : bAnd .i64 a.Needs 8 = ((m &&& 8 : Nat) : Int) := by rw [hm]; exact bAnd_nat m 8 (by omega) (by omega)
    have e16 : bAnd .i64 a.Needs 16 = ((m &&& 16 : Nat) : Int) := by rw [hm]; exact bAnd_nat m 16 (by omega) (by omega)
    have e24 : bAnd .i64 a.Needs 24 = ((m &&& 24 : Nat) : Int) := by rw [hm]; exact bAnd_nat m 24 (by omega) (by omega)
    have key := and24 m (by omega)
    have c : ∀ k : Nat, (((k : Nat) : Int) != 0) = (k != 0) := fun k => by
      rw [Bool.eq_iff_iff]; simp
    simp only [Bool.not_true, cond_false, Bool.true_eq_false, if_false, e8, e16, e24, c]
    rw [show (m &&& 24 != 0) = ((m &&& 8 != 0) || (m &&& 16 != 0)) from key]
    cases (m &&& 8 != 0) <;> cases (m &&& 16 != 0) <;> cases decide ((25 : Int) < a.Extra) <;> rfl
theorem GrantR_eq (rules : List api_AccessRule) (l : List api_Evidence) (c t : Int) (hl : l.length ≤ 1000000) : ref14_Grant rules l c t = some (grantOf rules l c t) := by
  unfold ref14_Grant grantOf
  rw [Check_same, Check_eq]
  simp only [Option.bind]
  by_cases h : checkOf rules = 0
  · obtain ⟨h12, hbad⟩ := checkOf_len h
    rw [h, if_pos rfl, show ((0 : Int) != 0) = false by decide, cond_false]
    have hgood : ∀ r ∈ rules, okA (accR r) = true := fun r hr => by
      have := List.any_eq_false.1 hbad r hr
      simp [badR] at this
      exact this.2
    have := iter_fold rules (ref14_Grant_l3 rules l c t) (fun (b : Int × Int) r => if appOf r l c t = true then ((jo ⟨b.1, b.2⟩ (accR r)).Extra, (jo ⟨b.1, b.2⟩ (accR r)).Needs) else b) (fun b => b) (fun _ b => okA ⟨b.1, b.2⟩ = true) (fun k b hk hb => by
      have hg := hgood rules[k] (List.getElem_mem hk)
      refine ⟨?_, ?_⟩
      · simp only [ref14_Grant_l3, ref14_Grant_j2, ix_nat rules k hk, applies_eq' _ l c t hl, Option.bind, joinR_eq]
        rw [req_pos (by omega), i64_add1 k (by omega), show decide ((k : Int) < (rules.length : Int)) = true by simp; omega, cond_true]
        cases appOf rules[k] l c t
        · rfl
        · rw [cond_true, req_pos (by omega), if_pos ⟨hb, hg⟩]; rfl
      · split
        · exact jo_ok hb hg
        · exact hb) (fun b _ => by simp [ref14_Grant_l3]) (0, 0) (by decide)
    rw [this]
    have key : ∀ (rs : List api_AccessRule) (b : Int × Int), (⟨(rs.foldl (fun (b : Int × Int) r => if appOf r l c t = true then ((jo ⟨b.1, b.2⟩ (accR r)).Extra, (jo ⟨b.1, b.2⟩ (accR r)).Needs) else b) b).1, (rs.foldl (fun (b : Int × Int) r => if appOf r l c t = true then ((jo ⟨b.1, b.2⟩ (accR r)).Extra, (jo ⟨b.1, b.2⟩ (accR r)).Needs) else b) b).2⟩ : api_Access) = ((rs.filter fun r => appOf r l c t).map accR).foldl jo ⟨b.1, b.2⟩ := by
      intro rs
      induction rs with
      | nil => intro b; rfl
      | cons r rs ih =>
        intro b
        simp only [List.foldl_cons, List.filter_cons]
        rw [ih]
        split <;> rfl
    simp only [ref14_Grant_j1, key rules (0, 0), implyR_eq, Option.bind]
    rfl
  · rw [if_neg h, show (checkOf rules != 0) = true by simpa using h, cond_true]
theorem ints_eq (a : List Int) (ha : a.length ≤ 1000000) : ref06_Ints a a = some true := by
  unfold ref06_Ints
  rw [show ((a.length : Int) != (a.length : Int)) = false by simp, cond_false, iter_scan a _ (fun _ => false) (fun _ => .inr false) (.inl ())]
  · rw [find_any, show (a.any fun _ => false) = false by simp]; rfl
  · intro k hk
    simp only [ref06_Ints_l2]
    rw [req_pos (by omega), i64_add1 k (by omega), show decide ((k : Int) < (a.length : Int)) = true by simp; omega, cond_true, show (ix a (k : Int) != ix a (k : Int)) = false by simp]
    rfl
  · simp [ref06_Ints_l2]
theorem pure_AccessGrants (t : List Int) (time : Int) : law14_AccessGrants t time = some true := by
  unfold law14_AccessGrants
  obtain ⟨t1, e1, h1⟩ := new_ok t
  obtain ⟨y, t2, e2, h2, h3, _⟩ := rules_ok t1 8 h1 (by omega)
  obtain ⟨l, t3, e3, h5, h6⟩ := evidence_ok t2 h2
  simp only [e1, e2, e3, Option.bind]
  obtain ⟨r, er, hr⟩ := iter_inv (f := law14_AccessGrants_l2 y l) (fun s => 0 ≤ s.2.1 ∧ s.2.1 ≤ 2 ∧ TOK ⟨s.2.2.1, s.2.2.2⟩) (fun s => (2 - s.2.1).toNat) (fun r => r = .inl ()) (by
    rintro ⟨tm, i, L, A⟩ ⟨k1, k2, k3⟩
    simp only at k1 k2 k3
    simp only [law14_AccessGrants_l2]
    rcases bcases (decide (i < (2 : Int))) with hc | hc <;> rw [hc]
    · left
      have hi : i < 2 := by simpa using hc
      have hlen : (reasonsOf y l i tm).length ≤ 1000000 := by
        unfold reasonsOf
        split
        · have := idx_len (fun r => appOf r l i tm) y 0; omega
        · simp
      obtain ⟨a, ta, ea, ha, _, _⟩ := range_ok ⟨L, A⟩ 0 30 k3 (by omega) (by omega) (by omega)
      simp only [cond_true, Grant_eq _ _ _ _ (show l.length ≤ 1000000 by omega), GrantR_eq _ _ _ _ (show l.length ≤ 1000000 by omega), Reasons_eq _ _ _ _ (show l.length ≤ 1000000 by omega), Reasons_eq' _ _ _ _ (show l.length ≤ 1000000 by omega), Option.bind, Option.isSome_some, Option.getD_some, ints_eq _ hlen, implies_true, and_self, req_true, ea]
      simp only [beq_self_eq_true, Bool.and_self, Bool.not_true, bne_self_eq_false, Bool.or_self, cond_false]
      rw [wrap64 (by omega) (by omega)]
      refine ⟨_, rfl, ⟨by show 0 ≤ i + 1; omega, by show i + 1 ≤ 2; omega, ha⟩, ?_⟩
      show (2 - (i + 1)).toNat < (2 - i).toNat
      omega
    · right; exact ⟨_, rfl, rfl⟩) (time, 0, t3.L, t3.At) ⟨by simp, by simp, h5⟩
  rw [er, hr]
  simp only [law14_AccessGrants_j1, awake_eq, Option.bind]

/-! ### Algebra -/
theorem joinA_eq (a b : api_Access) : access_Join a b = some (if okA a = true ∧ okA b = true then joined [a, b] else ⟨0, 0⟩) := by
  unfold access_Join
  simp only [valid_eq, Option.bind, Option.isSome_some, Option.getD_some, implies_true, req_true, joined_eq [a, b] (by simp)]
  cases okA a <;> cases okA b <;> simp
def vA (e n : Nat) : api_Access := ⟨e, n⟩
theorem okA_v (e n : Nat) (he : e ≤ 100) (hn : n < 64) : okA (vA e n) = true := by rw [okA_iff]; simp [vA]; omega
theorem v_of {a : api_Access} (h : okA a = true) : ∃ e n : Nat, e ≤ 100 ∧ n < 64 ∧ a = vA e n := by
  rw [okA_iff] at h
  obtain ⟨h1, h2, h3, h4⟩ := h
  refine ⟨a.Extra.toNat, a.Needs.toNat, by omega, by omega, ?_⟩
  unfold vA
  cases a
  simp at *
  omega
theorem joined_v (e n f m : Nat) (hn : n < 64) (hm : m < 64) : joined [vA e n, vA f m] = vA (max e f) (n ||| m) := by
  simp only [joined, List.foldl, jo, vA]
  rw [show (0 : Int) = ((0 : Nat) : Int) from rfl, bOr_nat 0 n (by omega) (by omega), Nat.zero_or, bOr_nat n m (by omega) (by omega)]
  congr 1
  unfold imax
  split <;> split <;> omega
theorem join_v (e n f m : Nat) (he : e ≤ 100) (hn : n < 64) (hf : f ≤ 100) (hm : m < 64) : access_Join (vA e n) (vA f m) = some (vA (max e f) (n ||| m)) := by
  rw [joinA_eq, if_pos ⟨okA_v e n he hn, okA_v f m hf hm⟩, joined_v e n f m hn hm]
def cI (e n : Nat) : Bool := (n &&& 24 != 0) || decide (25 < e)
theorem impl_v (e n : Nat) (he : e ≤ 100) (hn : n < 64) : impl (vA e n) = vA e (if cI e n = true then n ||| 1 else n) := by
  unfold impl
  rw [okA_v e n he hn]
  have e24 : bAnd .i64 (vA e n).Needs 24 = ((n &&& 24 : Nat) : Int) := bAnd_nat n 24 (by omega) (by omega)
  have e1 : bOr .i64 (vA e n).Needs 1 = ((n ||| 1 : Nat) : Int) := bOr_nat n 1 (by omega) (by omega)
  have c : ∀ k : Nat, (((k : Nat) : Int) != 0) = (k != 0) := fun k => by rw [Bool.eq_iff_iff]; simp
  have d : decide ((25 : Int) < (vA e n).Extra) = decide (25 < e) := by
    refine decide_eq_decide.2 ?_
    show ((25 : Int) < (e : Int)) ↔ 25 < e
    omega
  rw [e24, e1, c, d]
  simp only [Bool.true_eq_false, if_false]
  show (if cI e n = true then _ else _) = _
  cases cI e n <;> rfl
theorem or_lt {n m : Nat} (hn : n < 64) (hm : m < 64) : n ||| m < 64 := Nat.or_lt_two_pow (n := 6) hn hm
theorem or_zero {a b : Nat} : (a ||| b = 0) ↔ a = 0 ∧ b = 0 := by
  constructor
  · intro h
    have h1 : a ≤ a ||| b := Nat.left_le_or
    have h2 : b ≤ a ||| b := Nat.right_le_or
    omega
  · rintro ⟨rfl, rfl⟩; rfl
theorem cI_or (e f n m : Nat) : cI (max e f) (n ||| m) = (cI e n || cI f m) := by
  rw [Bool.eq_iff_iff]
  simp only [cI, Nat.and_or_distrib_right, Bool.or_eq_true, bne_iff_ne, ne_eq, or_zero, decide_eq_true_eq]
  omega
theorem and_or1 (n : Nat) : (n ||| 1) &&& 24 = n &&& 24 := by
  rw [Nat.and_or_distrib_right]; simp
theorem cI_one (e n : Nat) : cI e (n ||| 1) = cI e n := by unfold cI; rw [and_or1]
theorem cI_if (e n : Nat) (b : Bool) : cI e (if b = true then n ||| 1 else n) = cI e n := by cases b <;> simp [cI_one]
theorem if_lt {n : Nat} (b : Bool) (hn : n < 64) : (if b = true then n ||| 1 else n) < 64 := by
  cases b
  · exact hn
  · exact or_lt hn (by omega)
theorem access_ok (t : make_Tape) (h : TOK t) : ∃ e n t', make_Tape_Access t 0 = some (vA e n, t') ∧ TOK t' ∧ e ≤ 100 ∧ n < 64 := by
  obtain ⟨a, ta, ea, ha, a1⟩ := pick_ok t [(0 : Int), (5 : Int), (25 : Int), (26 : Int), (50 : Int), (100 : Int)] h (by decide) (by decide)
  obtain ⟨b, tb, eb, hb, b1⟩ := spoil_ok ta a 0 ha (by omega)
  obtain ⟨c, tc, ec, hc, c1, c2⟩ := range_ok tb 0 63 hb (by omega) (by omega) (by omega)
  obtain ⟨d, td, ed, hd, d1⟩ := spoil_ok tc c 0 hc (by omega)
  obtain ⟨rfl, _⟩ := b1 (by omega)
  obtain ⟨rfl, _⟩ := d1 (by omega)
  have ha2 : 0 ≤ b ∧ b ≤ 100 := by simp at a1; omega
  refine ⟨b.toNat, d.toNat, td, ?_, hd, by omega, by omega⟩
  unfold make_Tape_Access
  simp only [ea, eb, ec, ed, Option.bind, vA]
  congr 2
  · congr 1 <;> omega
theorem or1_idem (x : Nat) : (x ||| 1) ||| 1 = x ||| 1 := by rw [Nat.or_assoc, Nat.or_self]
theorem pure_AccessAlgebra (t : List Int) : law14_AccessAlgebra t = some true := by
  unfold law14_AccessAlgebra
  obtain ⟨t1, e1, h1⟩ := new_ok t
  obtain ⟨e, n, t2, e2, h2, he, hn⟩ := access_ok t1 h1
  obtain ⟨f, m, t3, e3, h3, hf, hm⟩ := access_ok t2 h2
  obtain ⟨g, k, t4, e4, h4, hg, hk⟩ := access_ok t3 h3
  have hnm := or_lt hn hm
  have hmk := or_lt hm hk
  have i1 := impl_v e n he hn
  have i2 := impl_v f m hf hm
  have i3 := impl_v (max e f) (n ||| m) (by omega) hnm
  have q1 := if_lt (cI e n) hn
  have q2 := if_lt (cI f m) hm
  have q3 := if_lt (cI (max e f) (n ||| m)) hnm
  simp only [e1, e2, e3, e4, Option.bind, Imply_eq, Option.isSome_some, Option.getD_some, awake_eq, i1, i2, join_v e n f m he hn hf hm, join_v f m e n hf hm he hn, join_v f m g k hf hm hg hk, join_v e n e n he hn he hn,
    join_v (max e f) (n ||| m) g k (by omega) hnm hg hk, join_v e n (max f g) (m ||| k) he hn (by omega) hmk, i3,
    join_v e (if cI e n = true then n ||| 1 else n) f (if cI f m = true then m ||| 1 else m) he q1 hf q2]
  rw [impl_v (max e f) (if cI (max e f) (n ||| m) = true then n ||| m ||| 1 else n ||| m) (by omega) q3, cI_if]
  rw [impl_v (max e f) _ (by omega) (or_lt q1 q2)]
  have z1 : max f e = max e f := Nat.max_comm _ _
  have z2 : m ||| n = n ||| m := Nat.or_comm _ _
  have z3 : max (max e f) g = max e (max f g) := by omega
  have z4 : (n ||| m) ||| k = n ||| (m ||| k) := Nat.or_assoc _ _ _
  have z5 : max e e = e := by omega
  have z6 : n ||| n = n := Nat.or_self _
  have z7 : (if cI (max e f) (n ||| m) = true then (if cI (max e f) (n ||| m) = true then n ||| m ||| 1 else n ||| m) ||| 1 else (if cI (max e f) (n ||| m) = true then n ||| m ||| 1 else n ||| m)) = (if cI (max e f) (n ||| m) = true then n ||| m ||| 1 else n ||| m) := by
    cases cI (max e f) (n ||| m) <;> simp [or1_idem]
  have z8 : (if cI (max e f) ((if cI e n = true then n ||| 1 else n) ||| (if cI f m = true then m ||| 1 else m)) = true then ((if cI e n = true then n ||| 1 else n) ||| (if cI f m = true then m ||| 1 else m)) ||| 1 else ((if cI e n = true then n ||| 1 else n) ||| (if cI f m = true then m ||| 1 else m))) = (if cI (max e f) (n ||| m) = true then n ||| m ||| 1 else n ||| m) := by
    rw [cI_or, cI_or, cI_if, cI_if]
    have w1 : (n ||| 1) ||| m = (n ||| m) ||| 1 := by rw [Nat.or_assoc, Nat.or_comm 1 m, ← Nat.or_assoc]
    have w2 : n ||| (m ||| 1) = (n ||| m) ||| 1 := by rw [Nat.or_assoc]
    have w3 : (n ||| 1) ||| (m ||| 1) = (n ||| m) ||| 1 := by rw [← Nat.or_assoc, w1, or1_idem]
    cases cI e n <;> cases cI f m <;> simp [w1, w2, w3, or1_idem]
  rw [z1, z2, z3, z4, z5, z6, z7, z8]
  simp [req]
end Go.LS
