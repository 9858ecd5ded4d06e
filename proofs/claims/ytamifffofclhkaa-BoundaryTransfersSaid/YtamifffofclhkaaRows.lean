/-
  No cell of these rows narrows 'for every input' (looked for: loops, veiled, ifaces, maps, wideKeys, modest, calm, conditions, laid).
  DERIVED. THE GIVEN ROWS OF THIS SEAT. 5 by the template 'for every input the law returns true; each argument reads behind the call as it read before'; 0 by the template 'total and deterministic' (their statements: YtamifffofclhkaaTotals.lean).
  GIVEN WITH THE SEED: the statements are not yours to turn. If you find one false, say at which input.
  Laid BY PROGRAM, IN A SANDBOX (cutbox-rows.mjs): the forced cells as the released guide's own fill.sh prints them over the translation 23ad6007cee5aae3… (all of the seat's roots in one cut). By AI agents, Wed Nov 11 2026. No macro, syntax, notation, axiom, sorry.
-/
import Derived.Test.YtamifffofclhkaaChecked
import GoSem.Claim
import GoSem.ClaimJoined
import GoSem.ClaimMapViews
import Derived.JoinedTies
import Derived.KernelRfl
namespace Go.Proofs.Ytamifffofclhkaa
/- THE CELL 'sum', in the pinned program and in every row, IS THE sha256 OF THE DUMP (.gsa) THAT YtamifffofclhkaaProg.lean LOADS. Nothing in Lean hashes anything: it is a label: what it is worth is what the hold of that sum in a sandbox is worth. -/
noncomputable def Try.pinned : Pinned := { name := "ytamifffofclhkaa", sum := "23ad6007cee5aae33318f9976e4339fa087ef6765a1c9e89dc354fe50d8137a9", checked := Try.checked }
namespace Rows
def none {H : Type} : Left H := { results := [], args := [] }

/-- 'awardingbodylaw35.BoundaryGrades': WHATEVER THE INPUT: true; the input reads as it did. -/
def boundaryGradesSpec : ChangeSpec := { name := "boundaryGrades", fn := fun _ => fun
  | [d] => { results := [.lit (.bool true)], args := [d] }
  | _ => none }
def boundaryGradesRow : OpenClaim := { program := "ytamifffofclhkaa", sum := "23ad6007cee5aae33318f9976e4339fa087ef6765a1c9e89dc354fe50d8137a9", func := "awardingbody/awardingbodylaw35.BoundaryGrades", spec := "boundaryGrades", named := ["math/bits.divideError", "math/bits.overflowError"], apart := false }
def BoundaryGradesSaid : Prop := boundaryGradesRow.holds Try.pinned (OpenSpec.ofChange boundaryGradesSpec)

/-- ITS FALSE NEIGHBOUR: 'it returns false'. Refute it at one input. -/
def boundaryGradesWrong : ChangeSpec := { name := "boundaryGrades", fn := fun _ => fun
  | [d] => { results := [.lit (.bool false)], args := [d] }
  | _ => none }
def BoundaryGradesWrongFalsely : Prop := boundaryGradesRow.holds Try.pinned (OpenSpec.ofChange boundaryGradesWrong)

/-- 'awardingbodylaw35.BoundaryInterpolates': WHATEVER THE INPUT: true; the input reads as it did. -/
def boundaryInterpolatesSpec : ChangeSpec := { name := "boundaryInterpolates", fn := fun _ => fun
  | [d1, d2, d3] => { results := [.lit (.bool true)], args := [d1, d2, d3] }
  | _ => none }
def boundaryInterpolatesRow : OpenClaim := { program := "ytamifffofclhkaa", sum := "23ad6007cee5aae33318f9976e4339fa087ef6765a1c9e89dc354fe50d8137a9", func := "awardingbody/awardingbodylaw35.BoundaryInterpolates", spec := "boundaryInterpolates", named := ["math/bits.divideError", "math/bits.overflowError"], apart := false }
def BoundaryInterpolatesSaid : Prop := boundaryInterpolatesRow.holds Try.pinned (OpenSpec.ofChange boundaryInterpolatesSpec)

/-- ITS FALSE NEIGHBOUR: 'it returns false'. Refute it at one input. -/
def boundaryInterpolatesWrong : ChangeSpec := { name := "boundaryInterpolates", fn := fun _ => fun
  | [d1, d2, d3] => { results := [.lit (.bool false)], args := [d1, d2, d3] }
  | _ => none }
def BoundaryInterpolatesWrongFalsely : Prop := boundaryInterpolatesRow.holds Try.pinned (OpenSpec.ofChange boundaryInterpolatesWrong)

/-- 'awardingbodylaw35.BoundaryShares': WHATEVER THE INPUT: true; the input reads as it did. -/
def boundarySharesSpec : ChangeSpec := { name := "boundaryShares", fn := fun _ => fun
  | [d1, d2] => { results := [.lit (.bool true)], args := [d1, d2] }
  | _ => none }
def boundarySharesRow : OpenClaim := { program := "ytamifffofclhkaa", sum := "23ad6007cee5aae33318f9976e4339fa087ef6765a1c9e89dc354fe50d8137a9", func := "awardingbody/awardingbodylaw35.BoundaryShares", spec := "boundaryShares", inPlace := ["math/bits.Sub64"], unfollowed := true, recurses := true, named := ["math/bits.divideError", "math/bits.overflowError"], apart := false }
def BoundarySharesSaid : Prop := boundarySharesRow.holds Try.pinned (OpenSpec.ofChange boundarySharesSpec)

/-- ITS FALSE NEIGHBOUR: 'it returns false'. Refute it at one input. -/
def boundarySharesWrong : ChangeSpec := { name := "boundaryShares", fn := fun _ => fun
  | [d1, d2] => { results := [.lit (.bool false)], args := [d1, d2] }
  | _ => none }
def BoundarySharesWrongFalsely : Prop := boundarySharesRow.holds Try.pinned (OpenSpec.ofChange boundarySharesWrong)

/-- 'awardingbodylaw35.BoundaryReference': WHATEVER THE INPUT: true; the input reads as it did. -/
def boundaryReferenceSpec : ChangeSpec := { name := "boundaryReference", fn := fun _ => fun
  | [d1, d2] => { results := [.lit (.bool true)], args := [d1, d2] }
  | _ => none }
def boundaryReferenceRow : OpenClaim := { program := "ytamifffofclhkaa", sum := "23ad6007cee5aae33318f9976e4339fa087ef6765a1c9e89dc354fe50d8137a9", func := "awardingbody/awardingbodylaw35.BoundaryReference", spec := "boundaryReference", named := ["math/bits.divideError", "math/bits.overflowError"], apart := false }
def BoundaryReferenceSaid : Prop := boundaryReferenceRow.holds Try.pinned (OpenSpec.ofChange boundaryReferenceSpec)

/-- ITS FALSE NEIGHBOUR: 'it returns false'. Refute it at one input. -/
def boundaryReferenceWrong : ChangeSpec := { name := "boundaryReference", fn := fun _ => fun
  | [d1, d2] => { results := [.lit (.bool false)], args := [d1, d2] }
  | _ => none }
def BoundaryReferenceWrongFalsely : Prop := boundaryReferenceRow.holds Try.pinned (OpenSpec.ofChange boundaryReferenceWrong)

/-- 'awardingbodylaw35.BoundaryTransfers': WHATEVER THE INPUT: true; the input reads as it did. -/
def boundaryTransfersSpec : ChangeSpec := { name := "boundaryTransfers", fn := fun _ => fun
  | [d1, d2] => { results := [.lit (.bool true)], args := [d1, d2] }
  | _ => none }
def boundaryTransfersRow : OpenClaim := { program := "ytamifffofclhkaa", sum := "23ad6007cee5aae33318f9976e4339fa087ef6765a1c9e89dc354fe50d8137a9", func := "awardingbody/awardingbodylaw35.BoundaryTransfers", spec := "boundaryTransfers", inPlace := ["math/bits.Add64", "math/bits.Sub64"], unfollowed := true, recurses := true, named := ["math/bits.divideError", "math/bits.overflowError"], apart := false }
def BoundaryTransfersSaid : Prop := boundaryTransfersRow.holds Try.pinned (OpenSpec.ofChange boundaryTransfersSpec)

/-- ITS FALSE NEIGHBOUR: 'it returns false'. Refute it at one input. -/
def boundaryTransfersWrong : ChangeSpec := { name := "boundaryTransfers", fn := fun _ => fun
  | [d1, d2] => { results := [.lit (.bool false)], args := [d1, d2] }
  | _ => none }
def BoundaryTransfersWrongFalsely : Prop := boundaryTransfersRow.holds Try.pinned (OpenSpec.ofChange boundaryTransfersWrong)

/- THE SECOND FORM. 'bulk': how many values and letters a reading holds, each counted each time it is reached (what is shared counts as often as it is met; a slice's spare places count too). A statement '..UptoSaid' is the law's where the arguments, and the package variables that the reading takes, are together of bulk at most 1048576: NARROWER than '..Said'. Prove '..Said' where nothing that the law and all that it calls make is longer than what came in: it says more and counts as full. Else prove '..UptoSaid'. A law counts once. -/
mutual
def uptoBulk {H : Type} : DataW H → Nat
  | .lit (.string bytes) => bytes.length + 1
  | .lit _ => 1
  | .nil => 1
  | .ptr d => uptoBulk d + 1
  | .slice elems spare => uptoBulkAll elems + uptoBulkAll spare + 1
  | .agg parts => uptoBulkAll parts + 1
  | .iface _ d => uptoBulk d + 1
  | .map entries => uptoBulkEntries entries + 1
  | .held _ => 1
def uptoBulkAll {H : Type} : List (DataW H) → Nat
  | [] => 0
  | d :: r => uptoBulk d + uptoBulkAll r
def uptoBulkEntries {H : Type} : List (Lit × DataW H) → Nat
  | [] => 0
  | x :: r => uptoBulkEntry x + uptoBulkEntries r
def uptoBulkEntry {H : Type} : Lit × DataW H → Nat
  | (.string bytes, d) => bytes.length + uptoBulk d + 1
  | (_, d) => uptoBulk d + 1
 end
def uptoSmall : (H : Type) → List (DataW H) → Bool := fun _ ds => decide (uptoBulkAll ds ≤ 1048576)
def OpenSpec.upto (s : _root_.Go.ChangeSpec) : _root_.Go.OpenSpec := { _root_.Go.OpenSpec.ofChange s with cond := some uptoSmall }

/-- 'awardingbodylaw35.BoundaryGrades', WHERE WHAT IT READS IS OF BULK AT MOST 1048576: true; the input reads as it did. -/
def boundaryGradesUptoRow : OpenClaim := { program := "ytamifffofclhkaa", sum := "23ad6007cee5aae33318f9976e4339fa087ef6765a1c9e89dc354fe50d8137a9", func := "awardingbody/awardingbodylaw35.BoundaryGrades", spec := "boundaryGrades", named := ["math/bits.divideError", "math/bits.overflowError"], apart := false, narrowed := true }
def BoundaryGradesUptoSaid : Prop := boundaryGradesUptoRow.holds Try.pinned (OpenSpec.upto boundaryGradesSpec)

/-- 'awardingbodylaw35.BoundaryInterpolates', WHERE WHAT IT READS IS OF BULK AT MOST 1048576: true; the input reads as it did. -/
def boundaryInterpolatesUptoRow : OpenClaim := { program := "ytamifffofclhkaa", sum := "23ad6007cee5aae33318f9976e4339fa087ef6765a1c9e89dc354fe50d8137a9", func := "awardingbody/awardingbodylaw35.BoundaryInterpolates", spec := "boundaryInterpolates", named := ["math/bits.divideError", "math/bits.overflowError"], apart := false, narrowed := true }
def BoundaryInterpolatesUptoSaid : Prop := boundaryInterpolatesUptoRow.holds Try.pinned (OpenSpec.upto boundaryInterpolatesSpec)

/-- 'awardingbodylaw35.BoundaryShares', WHERE WHAT IT READS IS OF BULK AT MOST 1048576: true; the input reads as it did. -/
def boundarySharesUptoRow : OpenClaim := { program := "ytamifffofclhkaa", sum := "23ad6007cee5aae33318f9976e4339fa087ef6765a1c9e89dc354fe50d8137a9", func := "awardingbody/awardingbodylaw35.BoundaryShares", spec := "boundaryShares", inPlace := ["math/bits.Sub64"], unfollowed := true, recurses := true, named := ["math/bits.divideError", "math/bits.overflowError"], apart := false, narrowed := true }
def BoundarySharesUptoSaid : Prop := boundarySharesUptoRow.holds Try.pinned (OpenSpec.upto boundarySharesSpec)

/-- 'awardingbodylaw35.BoundaryReference', WHERE WHAT IT READS IS OF BULK AT MOST 1048576: true; the input reads as it did. -/
def boundaryReferenceUptoRow : OpenClaim := { program := "ytamifffofclhkaa", sum := "23ad6007cee5aae33318f9976e4339fa087ef6765a1c9e89dc354fe50d8137a9", func := "awardingbody/awardingbodylaw35.BoundaryReference", spec := "boundaryReference", named := ["math/bits.divideError", "math/bits.overflowError"], apart := false, narrowed := true }
def BoundaryReferenceUptoSaid : Prop := boundaryReferenceUptoRow.holds Try.pinned (OpenSpec.upto boundaryReferenceSpec)

/-- 'awardingbodylaw35.BoundaryTransfers', WHERE WHAT IT READS IS OF BULK AT MOST 1048576: true; the input reads as it did. -/
def boundaryTransfersUptoRow : OpenClaim := { program := "ytamifffofclhkaa", sum := "23ad6007cee5aae33318f9976e4339fa087ef6765a1c9e89dc354fe50d8137a9", func := "awardingbody/awardingbodylaw35.BoundaryTransfers", spec := "boundaryTransfers", inPlace := ["math/bits.Add64", "math/bits.Sub64"], unfollowed := true, recurses := true, named := ["math/bits.divideError", "math/bits.overflowError"], apart := false, narrowed := true }
def BoundaryTransfersUptoSaid : Prop := boundaryTransfersUptoRow.holds Try.pinned (OpenSpec.upto boundaryTransfersSpec)

end Rows
end Go.Proofs.Ytamifffofclhkaa
