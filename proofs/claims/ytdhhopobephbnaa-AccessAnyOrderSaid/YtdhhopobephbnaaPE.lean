/-
  Orders drawn from the tape, and the law that order does not matter.
  Conditions: none but those of the statements.
-/
import Derived.Test.YtdhhopobephbnaaPD
namespace Go.LS
set_option linter.all false
set_option linter.unusedSimpArgs false
set_option linter.unusedVariables false
set_option maxRecDepth 20000

def rg (k : Nat) : List Int := (List.range k).map fun (j : Nat) => (j : Int)
theorem rg_succ (k : Nat) : rg (k + 1) = rg k ++ [(k : Int)] := by simp [rg, List.range_succ]
theorem mem_rg {k : Nat} {x : Int} : x ∈ rg k ↔ 0 ≤ x ∧ x < k := by
  simp only [rg, List.mem_map, List.mem_range]
  constructor
  · rintro ⟨a, h, rfl⟩; omega
  · rintro ⟨h1, h2⟩; exact ⟨x.toNat, by omega, by omega⟩
theorem map_rg {α : Type} [Inhabited α] (l : List α) : (rg l.length).map (ix l) = l := by
  apply List.ext_getElem
  · simp [rg]
  · intro i h1 h2
    simp [rg]
    exact ix_nat l i h2
theorem ins_perm (a : Int) (l : List Int) (y : Nat) : ((([] : List Int) ++ List.take y l) ++ [a] ++ List.drop y l).Perm (l ++ [a]) := by
  have h := List.perm_middle (a := a) (l₁ := List.take y l) (l₂ := List.drop y l)
  rw [List.take_append_drop] at h
  simp only [List.nil_append, List.append_assoc, List.singleton_append]
  refine h.trans ?_
  exact (List.perm_append_singleton a l).symm
theorem order_ok (t : make_Tape) (n : Nat) (h : TOK t) (hn : n ≤ 1000) : ∃ y t', make_Tape_Order t n = some (y, t') ∧ TOK t' ∧ y.Perm (rg n) := by
  unfold make_Tape_Order
  obtain ⟨⟨out, L, A⟩, e2, g1, g2⟩ := iter_inv (f := make_Tape_Order_l2 n) (fun s => 0 ≤ s.2.1 ∧ s.2.1 ≤ n ∧ TOK ⟨s.2.2.1, s.2.2.2⟩ ∧ s.1.Perm (rg s.2.1.toNat)) (fun s => (n - s.2.1).toNat)
    (fun r => TOK ⟨r.2.1, r.2.2⟩ ∧ r.1.Perm (rg n)) (by
      rintro ⟨out, i, L, A⟩ ⟨k1, k2, k3, k4⟩
      simp only at k1 k2 k3 k4
      simp only [make_Tape_Order_l2]
      have hlen : out.length = i.toNat := by rw [k4.length_eq]; simp [rg]
      rcases bcases (decide (i < (n : Int))) with hc | hc <;> rw [hc]
      · left
        have hi : i < n := by simpa using hc
        rw [wrap64 (n := i + 1) (by omega) (by omega)]
        obtain ⟨y, t1, e1, h1, h2, h3, _⟩ := next_ok ⟨L, A⟩ (i + 1) k3 (by omega)
        have h4 := h3 (by omega)
        simp only [cond_true, e1, Option.bind]
        rw [req_pos (by simp; omega), req_pos (by simp; omega), req_pos (by simp; omega)]
        refine ⟨_, rfl, ⟨by show 0 ≤ i + 1; omega, by show i + 1 ≤ n; omega, h1, ?_⟩, ?_⟩
        · show List.Perm _ (rg (i + 1).toNat)
          rw [show (i + 1).toNat = i.toNat + 1 by omega, rg_succ, show ((i.toNat : Nat) : Int) = i by omega]
          exact (ins_perm i out y.toNat).trans (k4.append_right [i])
        · show ((n : Int) - (i + 1)).toNat < ((n : Int) - i).toNat
          omega
      · right
        have hi : i = n := by simp at hc; omega
        refine ⟨_, rfl, k3, ?_⟩
        rw [hi] at k4
        exact k4) ([], 0, t.L, t.At) ⟨by simp, by simp, h, by simp [rg]⟩
  rw [e2]
  exact ⟨_, _, rfl, g1, g2⟩
theorem mixed_ok (t : make_Tape) (n : Nat) (h : TOK t) (hn : n ≤ 1000) : ∃ y t', make_Tape_Mixed t n = some (y, t') ∧ TOK t' ∧ (∀ x, x ∈ y ↔ 0 ≤ x ∧ x < n) ∧ y.length ≤ n + 3 := by
  unfold make_Tape_Mixed
  obtain ⟨p, t1, e1, h1, h2⟩ := order_ok t n h hn
  obtain ⟨i, t2, e2, h3, h4, h5, _⟩ := next_ok t1 4 h1 (by omega)
  have h6 := h5 (by omega)
  simp only [e1, e2, Option.bind]
  obtain ⟨⟨out, L, A⟩, e3, g1, g2, g3⟩ := iter_inv (f := make_Tape_Mixed_l2 n) (fun s => 0 ≤ s.2.1 ∧ TOK ⟨s.2.2.1, s.2.2.2⟩ ∧ (∀ x, x ∈ s.1 ↔ 0 ≤ x ∧ x < n) ∧ s.1.length + s.2.1 ≤ n + 3) (fun s => s.2.1.toNat)
    (fun r => TOK ⟨r.2.1, r.2.2⟩ ∧ (∀ x, x ∈ r.1 ↔ 0 ≤ x ∧ x < n) ∧ r.1.length ≤ n + 3) (by
      rintro ⟨out, i, L, A⟩ ⟨k1, k2, k3, k4⟩
      simp only at k1 k2 k3 k4
      simp only [make_Tape_Mixed_l2]
      rcases bcases ((decide ((0 : Int) < i)) && (decide ((0 : Int) < (n : Int)))) with hc | hc <;> rw [hc]
      · left
        have hi : 0 < i ∧ 0 < (n : Int) := by simpa using hc
        rw [wrap64 (n := (out.length : Int) + 1) (by omega) (by omega)]
        obtain ⟨y, t1, e1, h1, h2, h3, _⟩ := next_ok ⟨L, A⟩ ((out.length : Int) + 1) k2 (by omega)
        have h4 := h3 (by omega)
        obtain ⟨x, t3, e3, h5, h6, h7, _⟩ := next_ok t1 n h1 (by omega)
        have h8 := h7 (by omega)
        simp only [cond_true, e1, e3, Option.bind]
        rw [req_pos (by simp; omega), req_pos (by simp; omega), req_pos (by simp; omega), wrap64 (n := i - 1) (by omega) (by omega)]
        have hp := ins_perm x out y.toNat
        refine ⟨_, rfl, ⟨by show 0 ≤ i - 1; omega, h5, ?_, ?_⟩, ?_⟩
        · intro z
          refine (hp.mem_iff).trans ?_
          rw [List.mem_append, k3]
          simp
          omega
        · show ((((([] : List Int) ++ List.take y.toNat out) ++ [x]) ++ List.drop y.toNat out).length : Int) + (i - 1) ≤ n + 3
          rw [hp.length_eq]
          simp
          omega
        · show (i - 1).toNat < i.toNat
          omega
      · right
        exact ⟨_, rfl, k2, k3, by show out.length ≤ n + 3; omega⟩) (p, i, t2.L, t2.At) ⟨h4, h3, fun x => by show x ∈ p ↔ _; rw [h2.mem_iff]; exact mem_rg, by show ((p.length : Nat) : Int) + i ≤ n + 3; rw [h2.length_eq]; simp [rg]; omega⟩
  rw [e3]
  exact ⟨_, _, rfl, g1, g2, g3⟩

theorem ofInt_wrap (x : BitVec 64) : BitVec.ofInt 64 (IntKind.wrap .i64 (x.toNat : Int)) = x := by
  apply BitVec.eq_of_toNat_eq
  have := x.isLt
  rw [BitVec.toNat_ofInt]
  simp only [IntKind.wrap, IntKind.bits, IntKind.signed]
  simp
  split <;> omega
theorem bOr_rc (s a b : Int) : bOr .i64 (bOr .i64 s a) b = bOr .i64 (bOr .i64 s b) a := by
  have key : ∀ x y : Int, BitVec.ofInt 64 (bOr .i64 x y) = BitVec.ofInt 64 x ||| BitVec.ofInt 64 y := fun x y => ofInt_wrap _
  have e : ∀ x y : Int, bOr .i64 x y = IntKind.wrap .i64 ((BitVec.ofInt 64 x ||| BitVec.ofInt 64 y).toNat : Int) := fun _ _ => rfl
  rw [e, e (bOr .i64 s b), key, key, BitVec.or_assoc, BitVec.or_comm (BitVec.ofInt 64 a), ← BitVec.or_assoc]
theorem jo_rc (s a b : api_Access) : jo (jo s a) b = jo (jo s b) a := by
  simp only [jo, bOr_rc s.Needs a.Needs b.Needs]
  congr 1
  unfold imax
  (repeat' split) <;> omega
theorem grant_perm {m rules : List api_AccessRule} {n l : List api_Evidence} (c t : Int) (h1 : m.Perm rules) (h2 : ∀ e, e ∈ n ↔ e ∈ l) : grantOf m n c t = grantOf rules l c t := by
  have ha : ∀ r, appOf r n c t = appOf r l c t := by
    intro r
    unfold appOf
    rw [Bool.eq_iff_iff, List.any_eq_true, List.any_eq_true]
    constructor
    · rintro ⟨e, h, k⟩; exact ⟨e, (h2 e).1 h, k⟩
    · rintro ⟨e, h, k⟩; exact ⟨e, (h2 e).2 h, k⟩
  have hc : checkOf m = checkOf rules := by
    unfold checkOf
    rw [h1.length_eq]
    have : m.any badR = rules.any badR := by
      rw [Bool.eq_iff_iff, List.any_eq_true, List.any_eq_true]
      constructor
      · rintro ⟨e, h, k⟩; exact ⟨e, h1.mem_iff.1 h, k⟩
      · rintro ⟨e, h, k⟩; exact ⟨e, h1.mem_iff.2 h, k⟩
    rw [this]
  have hj : joined ((m.filter fun r => appOf r l c t).map accR) = joined ((rules.filter fun r => appOf r l c t).map accR) := by
    unfold joined
    exact ((h1.filter _).map accR).foldl_eq' (fun x _ y _ z => jo_rc z x y) _
  simp only [grantOf, ha, hc, hj]
theorem foldl_map_snoc {α β : Type} (g : α → β) (l : List α) : ∀ b : List β, l.foldl (fun b a => b ++ [g a]) b = b ++ l.map g := by
  induction l with
  | nil => intro b; simp
  | cons a l ih => intro b; simp [ih]
theorem pure_AccessAnyOrder (t : List Int) (time : Int) : law14_AccessAnyOrder t time = some true := by
  unfold law14_AccessAnyOrder
  obtain ⟨t1, e1, h1⟩ := new_ok t
  obtain ⟨y, t2, e2, h2, h3, h4⟩ := rules_ok t1 0 h1 (by omega)
  obtain ⟨l, t3, e3, h5, h6⟩ := evidence_ok t2 h2
  obtain ⟨p, t4, e4, h7, h8⟩ := order_ok t3 y.length h5 (by omega)
  obtain ⟨q, t5, e5, h9, h10, h11⟩ := mixed_ok t4 l.length h7 (by omega)
  obtain ⟨u, e6, _⟩ := cut_ok time 30 (by omega)
  have hpl : p.length = y.length := by rw [h8.length_eq]; simp [rg]
  simp only [e1, e2, e3, e4, e5, e6, Option.bind]
  have f1 := iter_fold p (law14_AccessAnyOrder_l4 y p) (fun (b : List api_AccessRule) n => b ++ [ix y n]) (fun b => b) (fun k b => b.length = k) (fun k b hk hb => by
      have hm := mem_rg.1 (h8.mem_iff.1 (List.getElem_mem hk))
      refine ⟨?_, by simp [hb]⟩
      simp only [law14_AccessAnyOrder_l4, ix_nat p k hk]
      rw [req_pos (by refine ⟨by omega, hm, ?_⟩; simp; omega), i64_add1 k (by omega), show decide ((k : Int) < (p.length : Int)) = true by simp; omega, cond_true]) (fun b _ => by simp [law14_AccessAnyOrder_l4]) [] rfl
  have f2 := iter_fold q (law14_AccessAnyOrder_l2 l q) (fun (b : List api_Evidence) n => b ++ [ix l n]) (fun b => b) (fun k b => b.length = k) (fun k b hk hb => by
      have hm := (h10 q[k]).1 (List.getElem_mem hk)
      refine ⟨?_, by simp [hb]⟩
      simp only [law14_AccessAnyOrder_l2, ix_nat q k hk]
      rw [req_pos (by refine ⟨by omega, hm, ?_⟩; simp; omega), i64_add1 k (by omega), show decide ((k : Int) < (q.length : Int)) = true by simp; omega, cond_true]) (fun b _ => by simp [law14_AccessAnyOrder_l2]) [] rfl
  rw [f1]
  simp only [law14_AccessAnyOrder_j3, f2, Option.bind, foldl_map_snoc, List.nil_append, law14_AccessAnyOrder_j1]
  have hP : (p.map (ix y)).Perm y := by
    have := h8.map (ix y)
    rw [map_rg] at this
    exact this
  have hM : ∀ e, e ∈ q.map (ix l) ↔ e ∈ l := by
    intro e
    conv => rhs; rw [← map_rg l]
    simp only [List.mem_map, mem_rg, h10]
  rw [Grant_eq _ _ _ _ (by omega), Grant_eq _ _ _ _ (by simp; omega), grant_perm 0 u hP hM]
  have h0 : (grantOf y l 0 u).2 = 0 := by simp [grantOf, h4 (by omega)]
  simp only [h0, awake_eq, Option.isSome_some, Option.getD_some, implies_true]
  simp [req]
end Go.LS
