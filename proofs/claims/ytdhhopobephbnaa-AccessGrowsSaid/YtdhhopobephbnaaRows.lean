/-
  No cell of these rows narrows 'for every input' (looked for: loops, veiled, ifaces, maps, wideKeys, modest, calm, conditions, laid).
  DERIVED. THE GIVEN ROWS OF THIS SEAT. 9 by the template 'for every input the law returns true; each argument reads behind the call as it read before'; 0 by the template 'total and deterministic' (their statements: YtdhhopobephbnaaTotals.lean).
  GIVEN WITH THE SEED: the statements are not yours to turn. If you find one false, say at which input.
  Laid BY PROGRAM, IN A SANDBOX (cutbox-rows.mjs): the forced cells as the released guide's own fill.sh prints them over the translation c58725b22cc7f6c8… (all of the seat's roots in one cut). By AI agents, Wed Nov 11 2026. No macro, syntax, notation, axiom, sorry.
-/
import Derived.Test.YtdhhopobephbnaaChecked
import GoSem.Claim
import GoSem.ClaimJoined
import GoSem.ClaimMapViews
import Derived.JoinedTies
import Derived.KernelRfl
namespace Go.Proofs.Ytdhhopobephbnaa
/- THE CELL 'sum', in the pinned program and in every row, IS THE sha256 OF THE DUMP (.gsa) THAT YtdhhopobephbnaaProg.lean LOADS. Nothing in Lean hashes anything: it is a label: what it is worth is what the hold of that sum in a sandbox is worth. -/
noncomputable def Try.pinned : Pinned := { name := "ytdhhopobephbnaa", sum := "c58725b22cc7f6c8ab8fd84f2e5ca2260b7e62c3d34204b1686083e2b6d0f293", checked := Try.checked }
namespace Rows
def none {H : Type} : Left H := { results := [], args := [] }

/-- 'awardingbodylaw14.AccessChecks': WHATEVER THE INPUT: true; the input reads as it did. -/
def accessChecksSpec : ChangeSpec := { name := "accessChecks", fn := fun _ => fun
  | [d1, d2, d3, d4, d5] => { results := [.lit (.bool true)], args := [d1, d2, d3, d4, d5] }
  | _ => none }
def accessChecksRow : OpenClaim := { program := "ytdhhopobephbnaa", sum := "c58725b22cc7f6c8ab8fd84f2e5ca2260b7e62c3d34204b1686083e2b6d0f293", func := "awardingbody/awardingbodylaw14.AccessChecks", spec := "accessChecks", apart := false }
def AccessChecksSaid : Prop := accessChecksRow.holds Try.pinned (OpenSpec.ofChange accessChecksSpec)

/-- ITS FALSE NEIGHBOUR: 'it returns false'. Refute it at one input. -/
def accessChecksWrong : ChangeSpec := { name := "accessChecks", fn := fun _ => fun
  | [d1, d2, d3, d4, d5] => { results := [.lit (.bool false)], args := [d1, d2, d3, d4, d5] }
  | _ => none }
def AccessChecksWrongFalsely : Prop := accessChecksRow.holds Try.pinned (OpenSpec.ofChange accessChecksWrong)

/-- 'awardingbodylaw14.AccessMany': WHATEVER THE INPUT: true; the input reads as it did. -/
def accessManySpec : ChangeSpec := { name := "accessMany", fn := fun _ => fun
  | [d] => { results := [.lit (.bool true)], args := [d] }
  | _ => none }
def accessManyRow : OpenClaim := { program := "ytdhhopobephbnaa", sum := "c58725b22cc7f6c8ab8fd84f2e5ca2260b7e62c3d34204b1686083e2b6d0f293", func := "awardingbody/awardingbodylaw14.AccessMany", spec := "accessMany", apart := false }
def AccessManySaid : Prop := accessManyRow.holds Try.pinned (OpenSpec.ofChange accessManySpec)

/-- ITS FALSE NEIGHBOUR: 'it returns false'. Refute it at one input. -/
def accessManyWrong : ChangeSpec := { name := "accessMany", fn := fun _ => fun
  | [d] => { results := [.lit (.bool false)], args := [d] }
  | _ => none }
def AccessManyWrongFalsely : Prop := accessManyRow.holds Try.pinned (OpenSpec.ofChange accessManyWrong)

/-- 'awardingbodylaw14.AccessGrants': WHATEVER THE INPUT: true; the input reads as it did. -/
def accessGrantsSpec : ChangeSpec := { name := "accessGrants", fn := fun _ => fun
  | [d1, d2] => { results := [.lit (.bool true)], args := [d1, d2] }
  | _ => none }
def accessGrantsRow : OpenClaim := { program := "ytdhhopobephbnaa", sum := "c58725b22cc7f6c8ab8fd84f2e5ca2260b7e62c3d34204b1686083e2b6d0f293", func := "awardingbody/awardingbodylaw14.AccessGrants", spec := "accessGrants", apart := false }
def AccessGrantsSaid : Prop := accessGrantsRow.holds Try.pinned (OpenSpec.ofChange accessGrantsSpec)

/-- ITS FALSE NEIGHBOUR: 'it returns false'. Refute it at one input. -/
def accessGrantsWrong : ChangeSpec := { name := "accessGrants", fn := fun _ => fun
  | [d1, d2] => { results := [.lit (.bool false)], args := [d1, d2] }
  | _ => none }
def AccessGrantsWrongFalsely : Prop := accessGrantsRow.holds Try.pinned (OpenSpec.ofChange accessGrantsWrong)

/-- 'awardingbodylaw14.AccessMinutes': WHATEVER THE INPUT: true; the input reads as it did. -/
def accessMinutesSpec : ChangeSpec := { name := "accessMinutes", fn := fun _ => fun
  | [d1, d2, d3] => { results := [.lit (.bool true)], args := [d1, d2, d3] }
  | _ => none }
def accessMinutesRow : OpenClaim := { program := "ytdhhopobephbnaa", sum := "c58725b22cc7f6c8ab8fd84f2e5ca2260b7e62c3d34204b1686083e2b6d0f293", func := "awardingbody/awardingbodylaw14.AccessMinutes", spec := "accessMinutes", apart := false }
def AccessMinutesSaid : Prop := accessMinutesRow.holds Try.pinned (OpenSpec.ofChange accessMinutesSpec)

/-- ITS FALSE NEIGHBOUR: 'it returns false'. Refute it at one input. -/
def accessMinutesWrong : ChangeSpec := { name := "accessMinutes", fn := fun _ => fun
  | [d1, d2, d3] => { results := [.lit (.bool false)], args := [d1, d2, d3] }
  | _ => none }
def AccessMinutesWrongFalsely : Prop := accessMinutesRow.holds Try.pinned (OpenSpec.ofChange accessMinutesWrong)

/-- 'awardingbodylaw14.AccessAnyOrder': WHATEVER THE INPUT: true; the input reads as it did. -/
def accessAnyOrderSpec : ChangeSpec := { name := "accessAnyOrder", fn := fun _ => fun
  | [d1, d2] => { results := [.lit (.bool true)], args := [d1, d2] }
  | _ => none }
def accessAnyOrderRow : OpenClaim := { program := "ytdhhopobephbnaa", sum := "c58725b22cc7f6c8ab8fd84f2e5ca2260b7e62c3d34204b1686083e2b6d0f293", func := "awardingbody/awardingbodylaw14.AccessAnyOrder", spec := "accessAnyOrder", apart := false }
def AccessAnyOrderSaid : Prop := accessAnyOrderRow.holds Try.pinned (OpenSpec.ofChange accessAnyOrderSpec)

/-- ITS FALSE NEIGHBOUR: 'it returns false'. Refute it at one input. -/
def accessAnyOrderWrong : ChangeSpec := { name := "accessAnyOrder", fn := fun _ => fun
  | [d1, d2] => { results := [.lit (.bool false)], args := [d1, d2] }
  | _ => none }
def AccessAnyOrderWrongFalsely : Prop := accessAnyOrderRow.holds Try.pinned (OpenSpec.ofChange accessAnyOrderWrong)

/-- 'awardingbodylaw14.AccessGrows': WHATEVER THE INPUT: true; the input reads as it did. -/
def accessGrowsSpec : ChangeSpec := { name := "accessGrows", fn := fun _ => fun
  | [d1, d2, d3] => { results := [.lit (.bool true)], args := [d1, d2, d3] }
  | _ => none }
def accessGrowsRow : OpenClaim := { program := "ytdhhopobephbnaa", sum := "c58725b22cc7f6c8ab8fd84f2e5ca2260b7e62c3d34204b1686083e2b6d0f293", func := "awardingbody/awardingbodylaw14.AccessGrows", spec := "accessGrows", apart := false }
def AccessGrowsSaid : Prop := accessGrowsRow.holds Try.pinned (OpenSpec.ofChange accessGrowsSpec)

/-- ITS FALSE NEIGHBOUR: 'it returns false'. Refute it at one input. -/
def accessGrowsWrong : ChangeSpec := { name := "accessGrows", fn := fun _ => fun
  | [d1, d2, d3] => { results := [.lit (.bool false)], args := [d1, d2, d3] }
  | _ => none }
def AccessGrowsWrongFalsely : Prop := accessGrowsRow.holds Try.pinned (OpenSpec.ofChange accessGrowsWrong)

/-- 'awardingbodylaw14.AccessOthers': WHATEVER THE INPUT: true; the input reads as it did. -/
def accessOthersSpec : ChangeSpec := { name := "accessOthers", fn := fun _ => fun
  | [d1, d2] => { results := [.lit (.bool true)], args := [d1, d2] }
  | _ => none }
def accessOthersRow : OpenClaim := { program := "ytdhhopobephbnaa", sum := "c58725b22cc7f6c8ab8fd84f2e5ca2260b7e62c3d34204b1686083e2b6d0f293", func := "awardingbody/awardingbodylaw14.AccessOthers", spec := "accessOthers", apart := false }
def AccessOthersSaid : Prop := accessOthersRow.holds Try.pinned (OpenSpec.ofChange accessOthersSpec)

/-- ITS FALSE NEIGHBOUR: 'it returns false'. Refute it at one input. -/
def accessOthersWrong : ChangeSpec := { name := "accessOthers", fn := fun _ => fun
  | [d1, d2] => { results := [.lit (.bool false)], args := [d1, d2] }
  | _ => none }
def AccessOthersWrongFalsely : Prop := accessOthersRow.holds Try.pinned (OpenSpec.ofChange accessOthersWrong)

/-- 'awardingbodylaw14.AccessJoins': WHATEVER THE INPUT: true; the input reads as it did. -/
def accessJoinsSpec : ChangeSpec := { name := "accessJoins", fn := fun _ => fun
  | [d1, d2, d3, d4] => { results := [.lit (.bool true)], args := [d1, d2, d3, d4] }
  | _ => none }
def accessJoinsRow : OpenClaim := { program := "ytdhhopobephbnaa", sum := "c58725b22cc7f6c8ab8fd84f2e5ca2260b7e62c3d34204b1686083e2b6d0f293", func := "awardingbody/awardingbodylaw14.AccessJoins", spec := "accessJoins", apart := false }
def AccessJoinsSaid : Prop := accessJoinsRow.holds Try.pinned (OpenSpec.ofChange accessJoinsSpec)

/-- ITS FALSE NEIGHBOUR: 'it returns false'. Refute it at one input. -/
def accessJoinsWrong : ChangeSpec := { name := "accessJoins", fn := fun _ => fun
  | [d1, d2, d3, d4] => { results := [.lit (.bool false)], args := [d1, d2, d3, d4] }
  | _ => none }
def AccessJoinsWrongFalsely : Prop := accessJoinsRow.holds Try.pinned (OpenSpec.ofChange accessJoinsWrong)

/-- 'awardingbodylaw14.AccessAlgebra': WHATEVER THE INPUT: true; the input reads as it did. -/
def accessAlgebraSpec : ChangeSpec := { name := "accessAlgebra", fn := fun _ => fun
  | [d] => { results := [.lit (.bool true)], args := [d] }
  | _ => none }
def accessAlgebraRow : OpenClaim := { program := "ytdhhopobephbnaa", sum := "c58725b22cc7f6c8ab8fd84f2e5ca2260b7e62c3d34204b1686083e2b6d0f293", func := "awardingbody/awardingbodylaw14.AccessAlgebra", spec := "accessAlgebra", apart := false }
def AccessAlgebraSaid : Prop := accessAlgebraRow.holds Try.pinned (OpenSpec.ofChange accessAlgebraSpec)

/-- ITS FALSE NEIGHBOUR: 'it returns false'. Refute it at one input. -/
def accessAlgebraWrong : ChangeSpec := { name := "accessAlgebra", fn := fun _ => fun
  | [d] => { results := [.lit (.bool false)], args := [d] }
  | _ => none }
def AccessAlgebraWrongFalsely : Prop := accessAlgebraRow.holds Try.pinned (OpenSpec.ofChange accessAlgebraWrong)

/- THE SECOND FORM. 'bulk': how many values and letters a reading holds, each counted each time it is reached (what is shared counts as often as it is met; a slice's spare places count too). A statement '..UptoSaid' is the law's where the arguments, and the package variables that the reading takes, are together of bulk at most 1048576: NARROWER than '..Said'. Prove '..Said' where nothing that the law and all that it calls make is longer than what came in: it says more and counts as full. Else prove '..UptoSaid'. A law counts once. -/
mutual
def uptoBulk {H : Type} : DataW H → Nat
  | .lit (.string bytes) => bytes.length + 1
  | .lit _ => 1
  | .nil => 1
  | .ptr d => uptoBulk d + 1
  | .slice elems spare => uptoBulkAll elems + uptoBulkAll spare + 1
  | .agg parts => uptoBulkAll parts + 1
  | .iface _ d => uptoBulk d + 1
  | .map entries => uptoBulkEntries entries + 1
  | .held _ => 1
def uptoBulkAll {H : Type} : List (DataW H) → Nat
  | [] => 0
  | d :: r => uptoBulk d + uptoBulkAll r
def uptoBulkEntries {H : Type} : List (Lit × DataW H) → Nat
  | [] => 0
  | x :: r => uptoBulkEntry x + uptoBulkEntries r
def uptoBulkEntry {H : Type} : Lit × DataW H → Nat
  | (.string bytes, d) => bytes.length + uptoBulk d + 1
  | (_, d) => uptoBulk d + 1
 end
def uptoSmall : (H : Type) → List (DataW H) → Bool := fun _ ds => decide (uptoBulkAll ds ≤ 1048576)
def OpenSpec.upto (s : _root_.Go.ChangeSpec) : _root_.Go.OpenSpec := { _root_.Go.OpenSpec.ofChange s with cond := some uptoSmall }

/-- 'awardingbodylaw14.AccessChecks', WHERE WHAT IT READS IS OF BULK AT MOST 1048576: true; the input reads as it did. -/
def accessChecksUptoRow : OpenClaim := { program := "ytdhhopobephbnaa", sum := "c58725b22cc7f6c8ab8fd84f2e5ca2260b7e62c3d34204b1686083e2b6d0f293", func := "awardingbody/awardingbodylaw14.AccessChecks", spec := "accessChecks", apart := false, narrowed := true }
def AccessChecksUptoSaid : Prop := accessChecksUptoRow.holds Try.pinned (OpenSpec.upto accessChecksSpec)

/-- 'awardingbodylaw14.AccessMany', WHERE WHAT IT READS IS OF BULK AT MOST 1048576: true; the input reads as it did. -/
def accessManyUptoRow : OpenClaim := { program := "ytdhhopobephbnaa", sum := "c58725b22cc7f6c8ab8fd84f2e5ca2260b7e62c3d34204b1686083e2b6d0f293", func := "awardingbody/awardingbodylaw14.AccessMany", spec := "accessMany", apart := false, narrowed := true }
def AccessManyUptoSaid : Prop := accessManyUptoRow.holds Try.pinned (OpenSpec.upto accessManySpec)

/-- 'awardingbodylaw14.AccessGrants', WHERE WHAT IT READS IS OF BULK AT MOST 1048576: true; the input reads as it did. -/
def accessGrantsUptoRow : OpenClaim := { program := "ytdhhopobephbnaa", sum := "c58725b22cc7f6c8ab8fd84f2e5ca2260b7e62c3d34204b1686083e2b6d0f293", func := "awardingbody/awardingbodylaw14.AccessGrants", spec := "accessGrants", apart := false, narrowed := true }
def AccessGrantsUptoSaid : Prop := accessGrantsUptoRow.holds Try.pinned (OpenSpec.upto accessGrantsSpec)

/-- 'awardingbodylaw14.AccessMinutes', WHERE WHAT IT READS IS OF BULK AT MOST 1048576: true; the input reads as it did. -/
def accessMinutesUptoRow : OpenClaim := { program := "ytdhhopobephbnaa", sum := "c58725b22cc7f6c8ab8fd84f2e5ca2260b7e62c3d34204b1686083e2b6d0f293", func := "awardingbody/awardingbodylaw14.AccessMinutes", spec := "accessMinutes", apart := false, narrowed := true }
def AccessMinutesUptoSaid : Prop := accessMinutesUptoRow.holds Try.pinned (OpenSpec.upto accessMinutesSpec)

/-- 'awardingbodylaw14.AccessAnyOrder', WHERE WHAT IT READS IS OF BULK AT MOST 1048576: true; the input reads as it did. -/
def accessAnyOrderUptoRow : OpenClaim := { program := "ytdhhopobephbnaa", sum := "c58725b22cc7f6c8ab8fd84f2e5ca2260b7e62c3d34204b1686083e2b6d0f293", func := "awardingbody/awardingbodylaw14.AccessAnyOrder", spec := "accessAnyOrder", apart := false, narrowed := true }
def AccessAnyOrderUptoSaid : Prop := accessAnyOrderUptoRow.holds Try.pinned (OpenSpec.upto accessAnyOrderSpec)

/-- 'awardingbodylaw14.AccessGrows', WHERE WHAT IT READS IS OF BULK AT MOST 1048576: true; the input reads as it did. -/
def accessGrowsUptoRow : OpenClaim := { program := "ytdhhopobephbnaa", sum := "c58725b22cc7f6c8ab8fd84f2e5ca2260b7e62c3d34204b1686083e2b6d0f293", func := "awardingbody/awardingbodylaw14.AccessGrows", spec := "accessGrows", apart := false, narrowed := true }
def AccessGrowsUptoSaid : Prop := accessGrowsUptoRow.holds Try.pinned (OpenSpec.upto accessGrowsSpec)

/-- 'awardingbodylaw14.AccessOthers', WHERE WHAT IT READS IS OF BULK AT MOST 1048576: true; the input reads as it did. -/
def accessOthersUptoRow : OpenClaim := { program := "ytdhhopobephbnaa", sum := "c58725b22cc7f6c8ab8fd84f2e5ca2260b7e62c3d34204b1686083e2b6d0f293", func := "awardingbody/awardingbodylaw14.AccessOthers", spec := "accessOthers", apart := false, narrowed := true }
def AccessOthersUptoSaid : Prop := accessOthersUptoRow.holds Try.pinned (OpenSpec.upto accessOthersSpec)

/-- 'awardingbodylaw14.AccessJoins', WHERE WHAT IT READS IS OF BULK AT MOST 1048576: true; the input reads as it did. -/
def accessJoinsUptoRow : OpenClaim := { program := "ytdhhopobephbnaa", sum := "c58725b22cc7f6c8ab8fd84f2e5ca2260b7e62c3d34204b1686083e2b6d0f293", func := "awardingbody/awardingbodylaw14.AccessJoins", spec := "accessJoins", apart := false, narrowed := true }
def AccessJoinsUptoSaid : Prop := accessJoinsUptoRow.holds Try.pinned (OpenSpec.upto accessJoinsSpec)

/-- 'awardingbodylaw14.AccessAlgebra', WHERE WHAT IT READS IS OF BULK AT MOST 1048576: true; the input reads as it did. -/
def accessAlgebraUptoRow : OpenClaim := { program := "ytdhhopobephbnaa", sum := "c58725b22cc7f6c8ab8fd84f2e5ca2260b7e62c3d34204b1686083e2b6d0f293", func := "awardingbody/awardingbodylaw14.AccessAlgebra", spec := "accessAlgebra", apart := false, narrowed := true }
def AccessAlgebraUptoSaid : Prop := accessAlgebraUptoRow.holds Try.pinned (OpenSpec.upto accessAlgebraSpec)

end Rows
end Go.Proofs.Ytdhhopobephbnaa
