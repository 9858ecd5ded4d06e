/-
  No cell of these rows narrows 'for every input' (looked for: loops, veiled, ifaces, maps, wideKeys, modest, calm, conditions, laid).
  DERIVED. THE GIVEN ROWS OF THIS SEAT. 6 by the template 'for every input the law returns true; each argument reads behind the call as it read before'; 0 by the template 'total and deterministic' (their statements: YtdfbbiahpcelmaaTotals.lean).
  GIVEN WITH THE SEED: the statements are not yours to turn. If you find one false, say at which input.
  Laid BY PROGRAM, IN A SANDBOX (cutbox-rows.mjs): the forced cells as the released guide's own fill.sh prints them over the translation f41a5ed5f0fb2f8a… (all of the seat's roots in one cut). By AI agents, Wed Nov 11 2026. No macro, syntax, notation, axiom, sorry.
-/
import Derived.Test.YtdfbbiahpcelmaaChecked
import GoSem.Claim
import GoSem.ClaimJoined
import GoSem.ClaimMapViews
import Derived.JoinedTies
import Derived.KernelRfl
namespace Go.Proofs.Ytdfbbiahpcelmaa
/- THE CELL 'sum', in the pinned program and in every row, IS THE sha256 OF THE DUMP (.gsa) THAT YtdfbbiahpcelmaaProg.lean LOADS. Nothing in Lean hashes anything: it is a label: what it is worth is what the hold of that sum in a sandbox is worth. -/
noncomputable def Try.pinned : Pinned := { name := "ytdfbbiahpcelmaa", sum := "f41a5ed5f0fb2f8aaee8e31cc07a80170a82ea84c20e1dbaf6f6e9c97d4ebdc1", checked := Try.checked }
namespace Rows
def none {H : Type} : Left H := { results := [], args := [] }

/-- 'awardingbodylaw32.DistributionQuantiles': WHATEVER THE INPUT: true; the input reads as it did. -/
def distributionQuantilesSpec : ChangeSpec := { name := "distributionQuantiles", fn := fun _ => fun
  | [d1, d2] => { results := [.lit (.bool true)], args := [d1, d2] }
  | _ => none }
def distributionQuantilesRow : OpenClaim := { program := "ytdfbbiahpcelmaa", sum := "f41a5ed5f0fb2f8aaee8e31cc07a80170a82ea84c20e1dbaf6f6e9c97d4ebdc1", func := "awardingbody/awardingbodylaw32.DistributionQuantiles", spec := "distributionQuantiles", inPlace := ["math/bits.Sub64"], named := ["math/bits.divideError", "math/bits.overflowError"], apart := false }
def DistributionQuantilesSaid : Prop := distributionQuantilesRow.holds Try.pinned (OpenSpec.ofChange distributionQuantilesSpec)

/-- ITS FALSE NEIGHBOUR: 'it returns false'. Refute it at one input. -/
def distributionQuantilesWrong : ChangeSpec := { name := "distributionQuantiles", fn := fun _ => fun
  | [d1, d2] => { results := [.lit (.bool false)], args := [d1, d2] }
  | _ => none }
def DistributionQuantilesWrongFalsely : Prop := distributionQuantilesRow.holds Try.pinned (OpenSpec.ofChange distributionQuantilesWrong)

/-- 'awardingbodylaw32.DistributionOrder': WHATEVER THE INPUT: true; the input reads as it did. -/
def distributionOrderSpec : ChangeSpec := { name := "distributionOrder", fn := fun _ => fun
  | [d] => { results := [.lit (.bool true)], args := [d] }
  | _ => none }
def distributionOrderRow : OpenClaim := { program := "ytdfbbiahpcelmaa", sum := "f41a5ed5f0fb2f8aaee8e31cc07a80170a82ea84c20e1dbaf6f6e9c97d4ebdc1", func := "awardingbody/awardingbodylaw32.DistributionOrder", spec := "distributionOrder", inPlace := ["math/bits.Sub64"], named := ["math/bits.divideError", "math/bits.overflowError"], apart := false }
def DistributionOrderSaid : Prop := distributionOrderRow.holds Try.pinned (OpenSpec.ofChange distributionOrderSpec)

/-- ITS FALSE NEIGHBOUR: 'it returns false'. Refute it at one input. -/
def distributionOrderWrong : ChangeSpec := { name := "distributionOrder", fn := fun _ => fun
  | [d] => { results := [.lit (.bool false)], args := [d] }
  | _ => none }
def DistributionOrderWrongFalsely : Prop := distributionOrderRow.holds Try.pinned (OpenSpec.ofChange distributionOrderWrong)

/-- 'awardingbodylaw32.DistributionSums': WHATEVER THE INPUT: true; the input reads as it did. -/
def distributionSumsSpec : ChangeSpec := { name := "distributionSums", fn := fun _ => fun
  | [d] => { results := [.lit (.bool true)], args := [d] }
  | _ => none }
def distributionSumsRow : OpenClaim := { program := "ytdfbbiahpcelmaa", sum := "f41a5ed5f0fb2f8aaee8e31cc07a80170a82ea84c20e1dbaf6f6e9c97d4ebdc1", func := "awardingbody/awardingbodylaw32.DistributionSums", spec := "distributionSums", inPlace := ["math/bits.Sub64", "math/bits.Add64"], named := ["math/bits.divideError", "math/bits.overflowError"], apart := false }
def DistributionSumsSaid : Prop := distributionSumsRow.holds Try.pinned (OpenSpec.ofChange distributionSumsSpec)

/-- ITS FALSE NEIGHBOUR: 'it returns false'. Refute it at one input. -/
def distributionSumsWrong : ChangeSpec := { name := "distributionSums", fn := fun _ => fun
  | [d] => { results := [.lit (.bool false)], args := [d] }
  | _ => none }
def DistributionSumsWrongFalsely : Prop := distributionSumsRow.holds Try.pinned (OpenSpec.ofChange distributionSumsWrong)

/-- 'awardingbodylaw32.DistributionDominates': WHATEVER THE INPUT: true; the input reads as it did. -/
def distributionDominatesSpec : ChangeSpec := { name := "distributionDominates", fn := fun _ => fun
  | [d1, d2] => { results := [.lit (.bool true)], args := [d1, d2] }
  | _ => none }
def distributionDominatesRow : OpenClaim := { program := "ytdfbbiahpcelmaa", sum := "f41a5ed5f0fb2f8aaee8e31cc07a80170a82ea84c20e1dbaf6f6e9c97d4ebdc1", func := "awardingbody/awardingbodylaw32.DistributionDominates", spec := "distributionDominates", inPlace := ["math/bits.Sub64", "math/bits.Add64"], named := ["math/bits.divideError", "math/bits.overflowError"], apart := false }
def DistributionDominatesSaid : Prop := distributionDominatesRow.holds Try.pinned (OpenSpec.ofChange distributionDominatesSpec)

/-- ITS FALSE NEIGHBOUR: 'it returns false'. Refute it at one input. -/
def distributionDominatesWrong : ChangeSpec := { name := "distributionDominates", fn := fun _ => fun
  | [d1, d2] => { results := [.lit (.bool false)], args := [d1, d2] }
  | _ => none }
def DistributionDominatesWrongFalsely : Prop := distributionDominatesRow.holds Try.pinned (OpenSpec.ofChange distributionDominatesWrong)

/-- 'awardingbodylaw32.DistributionSmooth': WHATEVER THE INPUT: true; the input reads as it did. -/
def distributionSmoothSpec : ChangeSpec := { name := "distributionSmooth", fn := fun _ => fun
  | [d] => { results := [.lit (.bool true)], args := [d] }
  | _ => none }
def distributionSmoothRow : OpenClaim := { program := "ytdfbbiahpcelmaa", sum := "f41a5ed5f0fb2f8aaee8e31cc07a80170a82ea84c20e1dbaf6f6e9c97d4ebdc1", func := "awardingbody/awardingbodylaw32.DistributionSmooth", spec := "distributionSmooth", inPlace := ["math/bits.Sub64", "math/bits.Add64"], named := ["math/bits.divideError", "math/bits.overflowError"], apart := false }
def DistributionSmoothSaid : Prop := distributionSmoothRow.holds Try.pinned (OpenSpec.ofChange distributionSmoothSpec)

/-- ITS FALSE NEIGHBOUR: 'it returns false'. Refute it at one input. -/
def distributionSmoothWrong : ChangeSpec := { name := "distributionSmooth", fn := fun _ => fun
  | [d] => { results := [.lit (.bool false)], args := [d] }
  | _ => none }
def DistributionSmoothWrongFalsely : Prop := distributionSmoothRow.holds Try.pinned (OpenSpec.ofChange distributionSmoothWrong)

/-- 'awardingbodylaw32.DistributionExact': WHATEVER THE INPUT: true; the input reads as it did. -/
def distributionExactSpec : ChangeSpec := { name := "distributionExact", fn := fun _ => fun
  | [d1, d2, d3, d4, d5, d6] => { results := [.lit (.bool true)], args := [d1, d2, d3, d4, d5, d6] }
  | _ => none }
def distributionExactRow : OpenClaim := { program := "ytdfbbiahpcelmaa", sum := "f41a5ed5f0fb2f8aaee8e31cc07a80170a82ea84c20e1dbaf6f6e9c97d4ebdc1", func := "awardingbody/awardingbodylaw32.DistributionExact", spec := "distributionExact", inPlace := ["math/bits.Sub64", "math/bits.Add64"], named := ["math/bits.divideError", "math/bits.overflowError"], apart := false }
def DistributionExactSaid : Prop := distributionExactRow.holds Try.pinned (OpenSpec.ofChange distributionExactSpec)

/-- ITS FALSE NEIGHBOUR: 'it returns false'. Refute it at one input. -/
def distributionExactWrong : ChangeSpec := { name := "distributionExact", fn := fun _ => fun
  | [d1, d2, d3, d4, d5, d6] => { results := [.lit (.bool false)], args := [d1, d2, d3, d4, d5, d6] }
  | _ => none }
def DistributionExactWrongFalsely : Prop := distributionExactRow.holds Try.pinned (OpenSpec.ofChange distributionExactWrong)

/- THE SECOND FORM. 'bulk': how many values and letters a reading holds, each counted each time it is reached (what is shared counts as often as it is met; a slice's spare places count too). A statement '..UptoSaid' is the law's where the arguments, and the package variables that the reading takes, are together of bulk at most 1048576: NARROWER than '..Said'. Prove '..Said' where nothing that the law and all that it calls make is longer than what came in: it says more and counts as full. Else prove '..UptoSaid'. A law counts once. -/
mutual
def uptoBulk {H : Type} : DataW H → Nat
  | .lit (.string bytes) => bytes.length + 1
  | .lit _ => 1
  | .nil => 1
  | .ptr d => uptoBulk d + 1
  | .slice elems spare => uptoBulkAll elems + uptoBulkAll spare + 1
  | .agg parts => uptoBulkAll parts + 1
  | .iface _ d => uptoBulk d + 1
  | .map entries => uptoBulkEntries entries + 1
  | .held _ => 1
def uptoBulkAll {H : Type} : List (DataW H) → Nat
  | [] => 0
  | d :: r => uptoBulk d + uptoBulkAll r
def uptoBulkEntries {H : Type} : List (Lit × DataW H) → Nat
  | [] => 0
  | x :: r => uptoBulkEntry x + uptoBulkEntries r
def uptoBulkEntry {H : Type} : Lit × DataW H → Nat
  | (.string bytes, d) => bytes.length + uptoBulk d + 1
  | (_, d) => uptoBulk d + 1
 end
def uptoSmall : (H : Type) → List (DataW H) → Bool := fun _ ds => decide (uptoBulkAll ds ≤ 1048576)
def OpenSpec.upto (s : _root_.Go.ChangeSpec) : _root_.Go.OpenSpec := { _root_.Go.OpenSpec.ofChange s with cond := some uptoSmall }

/-- 'awardingbodylaw32.DistributionQuantiles', WHERE WHAT IT READS IS OF BULK AT MOST 1048576: true; the input reads as it did. -/
def distributionQuantilesUptoRow : OpenClaim := { program := "ytdfbbiahpcelmaa", sum := "f41a5ed5f0fb2f8aaee8e31cc07a80170a82ea84c20e1dbaf6f6e9c97d4ebdc1", func := "awardingbody/awardingbodylaw32.DistributionQuantiles", spec := "distributionQuantiles", inPlace := ["math/bits.Sub64"], named := ["math/bits.divideError", "math/bits.overflowError"], apart := false, narrowed := true }
def DistributionQuantilesUptoSaid : Prop := distributionQuantilesUptoRow.holds Try.pinned (OpenSpec.upto distributionQuantilesSpec)

/-- 'awardingbodylaw32.DistributionOrder', WHERE WHAT IT READS IS OF BULK AT MOST 1048576: true; the input reads as it did. -/
def distributionOrderUptoRow : OpenClaim := { program := "ytdfbbiahpcelmaa", sum := "f41a5ed5f0fb2f8aaee8e31cc07a80170a82ea84c20e1dbaf6f6e9c97d4ebdc1", func := "awardingbody/awardingbodylaw32.DistributionOrder", spec := "distributionOrder", inPlace := ["math/bits.Sub64"], named := ["math/bits.divideError", "math/bits.overflowError"], apart := false, narrowed := true }
def DistributionOrderUptoSaid : Prop := distributionOrderUptoRow.holds Try.pinned (OpenSpec.upto distributionOrderSpec)

/-- 'awardingbodylaw32.DistributionSums', WHERE WHAT IT READS IS OF BULK AT MOST 1048576: true; the input reads as it did. -/
def distributionSumsUptoRow : OpenClaim := { program := "ytdfbbiahpcelmaa", sum := "f41a5ed5f0fb2f8aaee8e31cc07a80170a82ea84c20e1dbaf6f6e9c97d4ebdc1", func := "awardingbody/awardingbodylaw32.DistributionSums", spec := "distributionSums", inPlace := ["math/bits.Sub64", "math/bits.Add64"], named := ["math/bits.divideError", "math/bits.overflowError"], apart := false, narrowed := true }
def DistributionSumsUptoSaid : Prop := distributionSumsUptoRow.holds Try.pinned (OpenSpec.upto distributionSumsSpec)

/-- 'awardingbodylaw32.DistributionDominates', WHERE WHAT IT READS IS OF BULK AT MOST 1048576: true; the input reads as it did. -/
def distributionDominatesUptoRow : OpenClaim := { program := "ytdfbbiahpcelmaa", sum := "f41a5ed5f0fb2f8aaee8e31cc07a80170a82ea84c20e1dbaf6f6e9c97d4ebdc1", func := "awardingbody/awardingbodylaw32.DistributionDominates", spec := "distributionDominates", inPlace := ["math/bits.Sub64", "math/bits.Add64"], named := ["math/bits.divideError", "math/bits.overflowError"], apart := false, narrowed := true }
def DistributionDominatesUptoSaid : Prop := distributionDominatesUptoRow.holds Try.pinned (OpenSpec.upto distributionDominatesSpec)

/-- 'awardingbodylaw32.DistributionSmooth', WHERE WHAT IT READS IS OF BULK AT MOST 1048576: true; the input reads as it did. -/
def distributionSmoothUptoRow : OpenClaim := { program := "ytdfbbiahpcelmaa", sum := "f41a5ed5f0fb2f8aaee8e31cc07a80170a82ea84c20e1dbaf6f6e9c97d4ebdc1", func := "awardingbody/awardingbodylaw32.DistributionSmooth", spec := "distributionSmooth", inPlace := ["math/bits.Sub64", "math/bits.Add64"], named := ["math/bits.divideError", "math/bits.overflowError"], apart := false, narrowed := true }
def DistributionSmoothUptoSaid : Prop := distributionSmoothUptoRow.holds Try.pinned (OpenSpec.upto distributionSmoothSpec)

/-- 'awardingbodylaw32.DistributionExact', WHERE WHAT IT READS IS OF BULK AT MOST 1048576: true; the input reads as it did. -/
def distributionExactUptoRow : OpenClaim := { program := "ytdfbbiahpcelmaa", sum := "f41a5ed5f0fb2f8aaee8e31cc07a80170a82ea84c20e1dbaf6f6e9c97d4ebdc1", func := "awardingbody/awardingbodylaw32.DistributionExact", spec := "distributionExact", inPlace := ["math/bits.Sub64", "math/bits.Add64"], named := ["math/bits.divideError", "math/bits.overflowError"], apart := false, narrowed := true }
def DistributionExactUptoSaid : Prop := distributionExactUptoRow.holds Try.pinned (OpenSpec.upto distributionExactSpec)

end Rows
end Go.Proofs.Ytdfbbiahpcelmaa
