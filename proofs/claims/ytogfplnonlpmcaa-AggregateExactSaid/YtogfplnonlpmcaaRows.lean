/-
  No cell of these rows narrows 'for every input' (looked for: loops, veiled, ifaces, maps, wideKeys, modest, calm, conditions, laid).
  DERIVED. THE GIVEN ROWS OF THIS SEAT. 7 by the template 'for every input the law returns true; each argument reads behind the call as it read before'; 0 by the template 'total and deterministic' (their statements: YtogfplnonlpmcaaTotals.lean).
  GIVEN WITH THE SEED: the statements are not yours to turn. If you find one false, say at which input.
  Laid BY PROGRAM, IN A SANDBOX (cutbox-rows.mjs): the forced cells as the released guide's own fill.sh prints them over the translation 945c14fc498424cc… (all of the seat's roots in one cut). By AI agents, Wed Nov 11 2026. No macro, syntax, notation, axiom, sorry.
-/
import Derived.Test.YtogfplnonlpmcaaChecked
import GoSem.Claim
import GoSem.ClaimJoined
import GoSem.ClaimMapViews
import Derived.JoinedTies
import Derived.KernelRfl
namespace Go.Proofs.Ytogfplnonlpmcaa
/- THE CELL 'sum', in the pinned program and in every row, IS THE sha256 OF THE DUMP (.gsa) THAT YtogfplnonlpmcaaProg.lean LOADS. Nothing in Lean hashes anything: it is a label: what it is worth is what the hold of that sum in a sandbox is worth. -/
noncomputable def Try.pinned : Pinned := { name := "ytogfplnonlpmcaa", sum := "945c14fc498424cc3fef3c48cf1719bda3f793e49694d0d01e50e83d50eabea6", checked := Try.checked }
namespace Rows
def none {H : Type} : Left H := { results := [], args := [] }

/-- 'awardingbodylaw36.AggregateExact': WHATEVER THE INPUT: true; the input reads as it did. -/
def aggregateExactSpec : ChangeSpec := { name := "aggregateExact", fn := fun _ => fun
  | [d1, d2, d3, d4, d5] => { results := [.lit (.bool true)], args := [d1, d2, d3, d4, d5] }
  | _ => none }
def aggregateExactRow : OpenClaim := { program := "ytogfplnonlpmcaa", sum := "945c14fc498424cc3fef3c48cf1719bda3f793e49694d0d01e50e83d50eabea6", func := "awardingbody/awardingbodylaw36.AggregateExact", spec := "aggregateExact", inPlace := ["math/bits.Add64", "math/bits.Sub64"], unfollowed := true, recurses := true, named := ["math/bits.divideError", "math/bits.overflowError"], apart := false }
def AggregateExactSaid : Prop := aggregateExactRow.holds Try.pinned (OpenSpec.ofChange aggregateExactSpec)

/-- ITS FALSE NEIGHBOUR: 'it returns false'. Refute it at one input. -/
def aggregateExactWrong : ChangeSpec := { name := "aggregateExact", fn := fun _ => fun
  | [d1, d2, d3, d4, d5] => { results := [.lit (.bool false)], args := [d1, d2, d3, d4, d5] }
  | _ => none }
def AggregateExactWrongFalsely : Prop := aggregateExactRow.holds Try.pinned (OpenSpec.ofChange aggregateExactWrong)

/-- 'awardingbodylaw36.AggregateEstimates': WHATEVER THE INPUT: true; the input reads as it did. -/
def aggregateEstimatesSpec : ChangeSpec := { name := "aggregateEstimates", fn := fun _ => fun
  | [d1, d2] => { results := [.lit (.bool true)], args := [d1, d2] }
  | _ => none }
def aggregateEstimatesRow : OpenClaim := { program := "ytogfplnonlpmcaa", sum := "945c14fc498424cc3fef3c48cf1719bda3f793e49694d0d01e50e83d50eabea6", func := "awardingbody/awardingbodylaw36.AggregateEstimates", spec := "aggregateEstimates", inPlace := ["math/bits.Add64", "math/bits.Sub64"], unfollowed := true, recurses := true, named := ["math/bits.divideError", "math/bits.overflowError"], apart := false }
def AggregateEstimatesSaid : Prop := aggregateEstimatesRow.holds Try.pinned (OpenSpec.ofChange aggregateEstimatesSpec)

/-- ITS FALSE NEIGHBOUR: 'it returns false'. Refute it at one input. -/
def aggregateEstimatesWrong : ChangeSpec := { name := "aggregateEstimates", fn := fun _ => fun
  | [d1, d2] => { results := [.lit (.bool false)], args := [d1, d2] }
  | _ => none }
def AggregateEstimatesWrongFalsely : Prop := aggregateEstimatesRow.holds Try.pinned (OpenSpec.ofChange aggregateEstimatesWrong)

/-- 'awardingbodylaw36.AggregateRises': WHATEVER THE INPUT: true; the input reads as it did. -/
def aggregateRisesSpec : ChangeSpec := { name := "aggregateRises", fn := fun _ => fun
  | [d1, d2, d3] => { results := [.lit (.bool true)], args := [d1, d2, d3] }
  | _ => none }
def aggregateRisesRow : OpenClaim := { program := "ytogfplnonlpmcaa", sum := "945c14fc498424cc3fef3c48cf1719bda3f793e49694d0d01e50e83d50eabea6", func := "awardingbody/awardingbodylaw36.AggregateRises", spec := "aggregateRises", inPlace := ["math/bits.Add64", "math/bits.Sub64"], unfollowed := true, recurses := true, named := ["math/bits.divideError", "math/bits.overflowError"], apart := false }
def AggregateRisesSaid : Prop := aggregateRisesRow.holds Try.pinned (OpenSpec.ofChange aggregateRisesSpec)

/-- ITS FALSE NEIGHBOUR: 'it returns false'. Refute it at one input. -/
def aggregateRisesWrong : ChangeSpec := { name := "aggregateRises", fn := fun _ => fun
  | [d1, d2, d3] => { results := [.lit (.bool false)], args := [d1, d2, d3] }
  | _ => none }
def AggregateRisesWrongFalsely : Prop := aggregateRisesRow.holds Try.pinned (OpenSpec.ofChange aggregateRisesWrong)

/-- 'awardingbodylaw36.AggregateOrder': WHATEVER THE INPUT: true; the input reads as it did. -/
def aggregateOrderSpec : ChangeSpec := { name := "aggregateOrder", fn := fun _ => fun
  | [d1, d2] => { results := [.lit (.bool true)], args := [d1, d2] }
  | _ => none }
def aggregateOrderRow : OpenClaim := { program := "ytogfplnonlpmcaa", sum := "945c14fc498424cc3fef3c48cf1719bda3f793e49694d0d01e50e83d50eabea6", func := "awardingbody/awardingbodylaw36.AggregateOrder", spec := "aggregateOrder", inPlace := ["math/bits.Add64", "math/bits.Sub64"], unfollowed := true, recurses := true, named := ["math/bits.divideError", "math/bits.overflowError"], apart := false }
def AggregateOrderSaid : Prop := aggregateOrderRow.holds Try.pinned (OpenSpec.ofChange aggregateOrderSpec)

/-- ITS FALSE NEIGHBOUR: 'it returns false'. Refute it at one input. -/
def aggregateOrderWrong : ChangeSpec := { name := "aggregateOrder", fn := fun _ => fun
  | [d1, d2] => { results := [.lit (.bool false)], args := [d1, d2] }
  | _ => none }
def AggregateOrderWrongFalsely : Prop := aggregateOrderRow.holds Try.pinned (OpenSpec.ofChange aggregateOrderWrong)

/-- 'awardingbodylaw37.ResultEverybody': WHATEVER THE INPUT: true; the input reads as it did. -/
def resultEverybodySpec : ChangeSpec := { name := "resultEverybody", fn := fun _ => fun
  | [d] => { results := [.lit (.bool true)], args := [d] }
  | _ => none }
def resultEverybodyRow : OpenClaim := { program := "ytogfplnonlpmcaa", sum := "945c14fc498424cc3fef3c48cf1719bda3f793e49694d0d01e50e83d50eabea6", func := "awardingbody/awardingbodylaw37.ResultEverybody", spec := "resultEverybody", inPlace := ["math/bits.Add64", "math/bits.Sub64"], unfollowed := true, recurses := true, named := ["math/bits.divideError", "math/bits.overflowError"], apart := false }
def ResultEverybodySaid : Prop := resultEverybodyRow.holds Try.pinned (OpenSpec.ofChange resultEverybodySpec)

/-- ITS FALSE NEIGHBOUR: 'it returns false'. Refute it at one input. -/
def resultEverybodyWrong : ChangeSpec := { name := "resultEverybody", fn := fun _ => fun
  | [d] => { results := [.lit (.bool false)], args := [d] }
  | _ => none }
def ResultEverybodyWrongFalsely : Prop := resultEverybodyRow.holds Try.pinned (OpenSpec.ofChange resultEverybodyWrong)

/-- 'awardingbodylaw37.ResultReasons': WHATEVER THE INPUT: true; the input reads as it did. -/
def resultReasonsSpec : ChangeSpec := { name := "resultReasons", fn := fun _ => fun
  | [d] => { results := [.lit (.bool true)], args := [d] }
  | _ => none }
def resultReasonsRow : OpenClaim := { program := "ytogfplnonlpmcaa", sum := "945c14fc498424cc3fef3c48cf1719bda3f793e49694d0d01e50e83d50eabea6", func := "awardingbody/awardingbodylaw37.ResultReasons", spec := "resultReasons", inPlace := ["math/bits.Add64", "math/bits.Sub64"], unfollowed := true, recurses := true, named := ["math/bits.divideError", "math/bits.overflowError"], apart := false }
def ResultReasonsSaid : Prop := resultReasonsRow.holds Try.pinned (OpenSpec.ofChange resultReasonsSpec)

/-- ITS FALSE NEIGHBOUR: 'it returns false'. Refute it at one input. -/
def resultReasonsWrong : ChangeSpec := { name := "resultReasons", fn := fun _ => fun
  | [d] => { results := [.lit (.bool false)], args := [d] }
  | _ => none }
def ResultReasonsWrongFalsely : Prop := resultReasonsRow.holds Try.pinned (OpenSpec.ofChange resultReasonsWrong)

/-- 'awardingbodylaw37.ResultRestates': WHATEVER THE INPUT: true; the input reads as it did. -/
def resultRestatesSpec : ChangeSpec := { name := "resultRestates", fn := fun _ => fun
  | [d] => { results := [.lit (.bool true)], args := [d] }
  | _ => none }
def resultRestatesRow : OpenClaim := { program := "ytogfplnonlpmcaa", sum := "945c14fc498424cc3fef3c48cf1719bda3f793e49694d0d01e50e83d50eabea6", func := "awardingbody/awardingbodylaw37.ResultRestates", spec := "resultRestates", inPlace := ["math/bits.Add64", "math/bits.Sub64"], unfollowed := true, recurses := true, named := ["math/bits.divideError", "math/bits.overflowError"], apart := false }
def ResultRestatesSaid : Prop := resultRestatesRow.holds Try.pinned (OpenSpec.ofChange resultRestatesSpec)

/-- ITS FALSE NEIGHBOUR: 'it returns false'. Refute it at one input. -/
def resultRestatesWrong : ChangeSpec := { name := "resultRestates", fn := fun _ => fun
  | [d] => { results := [.lit (.bool false)], args := [d] }
  | _ => none }
def ResultRestatesWrongFalsely : Prop := resultRestatesRow.holds Try.pinned (OpenSpec.ofChange resultRestatesWrong)

/- THE SECOND FORM. 'bulk': how many values and letters a reading holds, each counted each time it is reached (what is shared counts as often as it is met; a slice's spare places count too). A statement '..UptoSaid' is the law's where the arguments, and the package variables that the reading takes, are together of bulk at most 1048576: NARROWER than '..Said'. Prove '..Said' where nothing that the law and all that it calls make is longer than what came in: it says more and counts as full. Else prove '..UptoSaid'. A law counts once. -/
mutual
def uptoBulk {H : Type} : DataW H → Nat
  | .lit (.string bytes) => bytes.length + 1
  | .lit _ => 1
  | .nil => 1
  | .ptr d => uptoBulk d + 1
  | .slice elems spare => uptoBulkAll elems + uptoBulkAll spare + 1
  | .agg parts => uptoBulkAll parts + 1
  | .iface _ d => uptoBulk d + 1
  | .map entries => uptoBulkEntries entries + 1
  | .held _ => 1
def uptoBulkAll {H : Type} : List (DataW H) → Nat
  | [] => 0
  | d :: r => uptoBulk d + uptoBulkAll r
def uptoBulkEntries {H : Type} : List (Lit × DataW H) → Nat
  | [] => 0
  | x :: r => uptoBulkEntry x + uptoBulkEntries r
def uptoBulkEntry {H : Type} : Lit × DataW H → Nat
  | (.string bytes, d) => bytes.length + uptoBulk d + 1
  | (_, d) => uptoBulk d + 1
 end
def uptoSmall : (H : Type) → List (DataW H) → Bool := fun _ ds => decide (uptoBulkAll ds ≤ 1048576)
def OpenSpec.upto (s : _root_.Go.ChangeSpec) : _root_.Go.OpenSpec := { _root_.Go.OpenSpec.ofChange s with cond := some uptoSmall }

/-- 'awardingbodylaw36.AggregateExact', WHERE WHAT IT READS IS OF BULK AT MOST 1048576: true; the input reads as it did. -/
def aggregateExactUptoRow : OpenClaim := { program := "ytogfplnonlpmcaa", sum := "945c14fc498424cc3fef3c48cf1719bda3f793e49694d0d01e50e83d50eabea6", func := "awardingbody/awardingbodylaw36.AggregateExact", spec := "aggregateExact", inPlace := ["math/bits.Add64", "math/bits.Sub64"], unfollowed := true, recurses := true, named := ["math/bits.divideError", "math/bits.overflowError"], apart := false, narrowed := true }
def AggregateExactUptoSaid : Prop := aggregateExactUptoRow.holds Try.pinned (OpenSpec.upto aggregateExactSpec)

/-- 'awardingbodylaw36.AggregateEstimates', WHERE WHAT IT READS IS OF BULK AT MOST 1048576: true; the input reads as it did. -/
def aggregateEstimatesUptoRow : OpenClaim := { program := "ytogfplnonlpmcaa", sum := "945c14fc498424cc3fef3c48cf1719bda3f793e49694d0d01e50e83d50eabea6", func := "awardingbody/awardingbodylaw36.AggregateEstimates", spec := "aggregateEstimates", inPlace := ["math/bits.Add64", "math/bits.Sub64"], unfollowed := true, recurses := true, named := ["math/bits.divideError", "math/bits.overflowError"], apart := false, narrowed := true }
def AggregateEstimatesUptoSaid : Prop := aggregateEstimatesUptoRow.holds Try.pinned (OpenSpec.upto aggregateEstimatesSpec)

/-- 'awardingbodylaw36.AggregateRises', WHERE WHAT IT READS IS OF BULK AT MOST 1048576: true; the input reads as it did. -/
def aggregateRisesUptoRow : OpenClaim := { program := "ytogfplnonlpmcaa", sum := "945c14fc498424cc3fef3c48cf1719bda3f793e49694d0d01e50e83d50eabea6", func := "awardingbody/awardingbodylaw36.AggregateRises", spec := "aggregateRises", inPlace := ["math/bits.Add64", "math/bits.Sub64"], unfollowed := true, recurses := true, named := ["math/bits.divideError", "math/bits.overflowError"], apart := false, narrowed := true }
def AggregateRisesUptoSaid : Prop := aggregateRisesUptoRow.holds Try.pinned (OpenSpec.upto aggregateRisesSpec)

/-- 'awardingbodylaw36.AggregateOrder', WHERE WHAT IT READS IS OF BULK AT MOST 1048576: true; the input reads as it did. -/
def aggregateOrderUptoRow : OpenClaim := { program := "ytogfplnonlpmcaa", sum := "945c14fc498424cc3fef3c48cf1719bda3f793e49694d0d01e50e83d50eabea6", func := "awardingbody/awardingbodylaw36.AggregateOrder", spec := "aggregateOrder", inPlace := ["math/bits.Add64", "math/bits.Sub64"], unfollowed := true, recurses := true, named := ["math/bits.divideError", "math/bits.overflowError"], apart := false, narrowed := true }
def AggregateOrderUptoSaid : Prop := aggregateOrderUptoRow.holds Try.pinned (OpenSpec.upto aggregateOrderSpec)

/-- 'awardingbodylaw37.ResultEverybody', WHERE WHAT IT READS IS OF BULK AT MOST 1048576: true; the input reads as it did. -/
def resultEverybodyUptoRow : OpenClaim := { program := "ytogfplnonlpmcaa", sum := "945c14fc498424cc3fef3c48cf1719bda3f793e49694d0d01e50e83d50eabea6", func := "awardingbody/awardingbodylaw37.ResultEverybody", spec := "resultEverybody", inPlace := ["math/bits.Add64", "math/bits.Sub64"], unfollowed := true, recurses := true, named := ["math/bits.divideError", "math/bits.overflowError"], apart := false, narrowed := true }
def ResultEverybodyUptoSaid : Prop := resultEverybodyUptoRow.holds Try.pinned (OpenSpec.upto resultEverybodySpec)

/-- 'awardingbodylaw37.ResultReasons', WHERE WHAT IT READS IS OF BULK AT MOST 1048576: true; the input reads as it did. -/
def resultReasonsUptoRow : OpenClaim := { program := "ytogfplnonlpmcaa", sum := "945c14fc498424cc3fef3c48cf1719bda3f793e49694d0d01e50e83d50eabea6", func := "awardingbody/awardingbodylaw37.ResultReasons", spec := "resultReasons", inPlace := ["math/bits.Add64", "math/bits.Sub64"], unfollowed := true, recurses := true, named := ["math/bits.divideError", "math/bits.overflowError"], apart := false, narrowed := true }
def ResultReasonsUptoSaid : Prop := resultReasonsUptoRow.holds Try.pinned (OpenSpec.upto resultReasonsSpec)

/-- 'awardingbodylaw37.ResultRestates', WHERE WHAT IT READS IS OF BULK AT MOST 1048576: true; the input reads as it did. -/
def resultRestatesUptoRow : OpenClaim := { program := "ytogfplnonlpmcaa", sum := "945c14fc498424cc3fef3c48cf1719bda3f793e49694d0d01e50e83d50eabea6", func := "awardingbody/awardingbodylaw37.ResultRestates", spec := "resultRestates", inPlace := ["math/bits.Add64", "math/bits.Sub64"], unfollowed := true, recurses := true, named := ["math/bits.divideError", "math/bits.overflowError"], apart := false, narrowed := true }
def ResultRestatesUptoSaid : Prop := resultRestatesUptoRow.holds Try.pinned (OpenSpec.upto resultRestatesSpec)

end Rows
end Go.Proofs.Ytogfplnonlpmcaa
