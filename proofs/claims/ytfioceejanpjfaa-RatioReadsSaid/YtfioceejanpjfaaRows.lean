/-
  No cell of these rows narrows 'for every input' (looked for: loops, veiled, ifaces, maps, wideKeys, modest, calm, conditions, laid).
  DERIVED. THE GIVEN ROWS OF THIS SEAT. 5 by the template 'for every input the law returns true; each argument reads behind the call as it read before'; 0 by the template 'total and deterministic' (their statements: YtfioceejanpjfaaTotals.lean).
  GIVEN WITH THE SEED: the statements are not yours to turn. If you find one false, say at which input.
  Laid BY PROGRAM, IN A SANDBOX (cutbox-rows.mjs): the forced cells as the released guide's own fill.sh prints them over the translation 612aae3f1bf054a8… (all of the seat's roots in one cut). By AI agents, Wed Nov 11 2026. No macro, syntax, notation, axiom, sorry.
-/
import Derived.Test.YtfioceejanpjfaaChecked
import GoSem.Claim
import GoSem.ClaimJoined
import GoSem.ClaimMapViews
import Derived.JoinedTies
import Derived.KernelRfl
namespace Go.Proofs.Ytfioceejanpjfaa
/- THE CELL 'sum', in the pinned program and in every row, IS THE sha256 OF THE DUMP (.gsa) THAT YtfioceejanpjfaaProg.lean LOADS. Nothing in Lean hashes anything: it is a label: what it is worth is what the hold of that sum in a sandbox is worth. -/
noncomputable def Try.pinned : Pinned := { name := "ytfioceejanpjfaa", sum := "612aae3f1bf054a80bd8a1ff5f2670fbc94ba2e8f212850da685064259fb6095", checked := Try.checked }
namespace Rows
def none {H : Type} : Left H := { results := [], args := [] }

/-- 'awardingbodylaw01.RatioParses': WHATEVER THE INPUT: true; the input reads as it did. -/
def ratioParsesSpec : ChangeSpec := { name := "ratioParses", fn := fun _ => fun
  | [d] => { results := [.lit (.bool true)], args := [d] }
  | _ => none }
def ratioParsesRow : OpenClaim := { program := "ytfioceejanpjfaa", sum := "612aae3f1bf054a80bd8a1ff5f2670fbc94ba2e8f212850da685064259fb6095", func := "awardingbody/awardingbodylaw01.RatioParses", spec := "ratioParses", inPlace := ["math/bits.Add64", "math/bits.Sub64"], unfollowed := true, recurses := true, named := ["math/bits.divideError", "math/bits.overflowError"], apart := false }
def RatioParsesSaid : Prop := ratioParsesRow.holds Try.pinned (OpenSpec.ofChange ratioParsesSpec)

/-- ITS FALSE NEIGHBOUR: 'it returns false'. Refute it at one input. -/
def ratioParsesWrong : ChangeSpec := { name := "ratioParses", fn := fun _ => fun
  | [d] => { results := [.lit (.bool false)], args := [d] }
  | _ => none }
def RatioParsesWrongFalsely : Prop := ratioParsesRow.holds Try.pinned (OpenSpec.ofChange ratioParsesWrong)

/-- 'awardingbodylaw01.RatioReads': WHATEVER THE INPUT: true; the input reads as it did. -/
def ratioReadsSpec : ChangeSpec := { name := "ratioReads", fn := fun _ => fun
  | [d] => { results := [.lit (.bool true)], args := [d] }
  | _ => none }
def ratioReadsRow : OpenClaim := { program := "ytfioceejanpjfaa", sum := "612aae3f1bf054a80bd8a1ff5f2670fbc94ba2e8f212850da685064259fb6095", func := "awardingbody/awardingbodylaw01.RatioReads", spec := "ratioReads", inPlace := ["math/bits.Add64", "math/bits.Sub64"], unfollowed := true, recurses := true, named := ["math/bits.divideError", "math/bits.overflowError"], apart := false }
def RatioReadsSaid : Prop := ratioReadsRow.holds Try.pinned (OpenSpec.ofChange ratioReadsSpec)

/-- ITS FALSE NEIGHBOUR: 'it returns false'. Refute it at one input. -/
def ratioReadsWrong : ChangeSpec := { name := "ratioReads", fn := fun _ => fun
  | [d] => { results := [.lit (.bool false)], args := [d] }
  | _ => none }
def RatioReadsWrongFalsely : Prop := ratioReadsRow.holds Try.pinned (OpenSpec.ofChange ratioReadsWrong)

/-- 'awardingbodylaw01.RatioSumsLong': WHATEVER THE INPUT: true; the input reads as it did. -/
def ratioSumsLongSpec : ChangeSpec := { name := "ratioSumsLong", fn := fun _ => fun
  | [d1, d2, d3] => { results := [.lit (.bool true)], args := [d1, d2, d3] }
  | _ => none }
def ratioSumsLongRow : OpenClaim := { program := "ytfioceejanpjfaa", sum := "612aae3f1bf054a80bd8a1ff5f2670fbc94ba2e8f212850da685064259fb6095", func := "awardingbody/awardingbodylaw01.RatioSumsLong", spec := "ratioSumsLong", inPlace := ["math/bits.Add64", "math/bits.Sub64"], unfollowed := true, recurses := true, named := ["math/bits.divideError", "math/bits.overflowError"], apart := false }
def RatioSumsLongSaid : Prop := ratioSumsLongRow.holds Try.pinned (OpenSpec.ofChange ratioSumsLongSpec)

/-- ITS FALSE NEIGHBOUR: 'it returns false'. Refute it at one input. -/
def ratioSumsLongWrong : ChangeSpec := { name := "ratioSumsLong", fn := fun _ => fun
  | [d1, d2, d3] => { results := [.lit (.bool false)], args := [d1, d2, d3] }
  | _ => none }
def RatioSumsLongWrongFalsely : Prop := ratioSumsLongRow.holds Try.pinned (OpenSpec.ofChange ratioSumsLongWrong)

/-- 'awardingbodylaw01.RatioField': WHATEVER THE INPUT: true; the input reads as it did. -/
def ratioFieldSpec : ChangeSpec := { name := "ratioField", fn := fun _ => fun
  | [d] => { results := [.lit (.bool true)], args := [d] }
  | _ => none }
def ratioFieldRow : OpenClaim := { program := "ytfioceejanpjfaa", sum := "612aae3f1bf054a80bd8a1ff5f2670fbc94ba2e8f212850da685064259fb6095", func := "awardingbody/awardingbodylaw01.RatioField", spec := "ratioField", inPlace := ["math/bits.Sub64", "math/bits.Add64"], unfollowed := true, recurses := true, named := ["math/bits.divideError", "math/bits.overflowError"], apart := false }
def RatioFieldSaid : Prop := ratioFieldRow.holds Try.pinned (OpenSpec.ofChange ratioFieldSpec)

/-- ITS FALSE NEIGHBOUR: 'it returns false'. Refute it at one input. -/
def ratioFieldWrong : ChangeSpec := { name := "ratioField", fn := fun _ => fun
  | [d] => { results := [.lit (.bool false)], args := [d] }
  | _ => none }
def RatioFieldWrongFalsely : Prop := ratioFieldRow.holds Try.pinned (OpenSpec.ofChange ratioFieldWrong)

/-- 'awardingbodylaw01.RatioNear': WHATEVER THE INPUT: true; the input reads as it did. -/
def ratioNearSpec : ChangeSpec := { name := "ratioNear", fn := fun _ => fun
  | [d] => { results := [.lit (.bool true)], args := [d] }
  | _ => none }
def ratioNearRow : OpenClaim := { program := "ytfioceejanpjfaa", sum := "612aae3f1bf054a80bd8a1ff5f2670fbc94ba2e8f212850da685064259fb6095", func := "awardingbody/awardingbodylaw01.RatioNear", spec := "ratioNear", inPlace := ["math/bits.Sub64", "math/bits.Add64"], unfollowed := true, recurses := true, named := ["math/bits.divideError", "math/bits.overflowError"], apart := false }
def RatioNearSaid : Prop := ratioNearRow.holds Try.pinned (OpenSpec.ofChange ratioNearSpec)

/-- ITS FALSE NEIGHBOUR: 'it returns false'. Refute it at one input. -/
def ratioNearWrong : ChangeSpec := { name := "ratioNear", fn := fun _ => fun
  | [d] => { results := [.lit (.bool false)], args := [d] }
  | _ => none }
def RatioNearWrongFalsely : Prop := ratioNearRow.holds Try.pinned (OpenSpec.ofChange ratioNearWrong)

/- THE SECOND FORM. 'bulk': how many values and letters a reading holds, each counted each time it is reached (what is shared counts as often as it is met; a slice's spare places count too). A statement '..UptoSaid' is the law's where the arguments, and the package variables that the reading takes, are together of bulk at most 1048576: NARROWER than '..Said'. Prove '..Said' where nothing that the law and all that it calls make is longer than what came in: it says more and counts as full. Else prove '..UptoSaid'. A law counts once. -/
mutual
def uptoBulk {H : Type} : DataW H → Nat
  | .lit (.string bytes) => bytes.length + 1
  | .lit _ => 1
  | .nil => 1
  | .ptr d => uptoBulk d + 1
  | .slice elems spare => uptoBulkAll elems + uptoBulkAll spare + 1
  | .agg parts => uptoBulkAll parts + 1
  | .iface _ d => uptoBulk d + 1
  | .map entries => uptoBulkEntries entries + 1
  | .held _ => 1
def uptoBulkAll {H : Type} : List (DataW H) → Nat
  | [] => 0
  | d :: r => uptoBulk d + uptoBulkAll r
def uptoBulkEntries {H : Type} : List (Lit × DataW H) → Nat
  | [] => 0
  | x :: r => uptoBulkEntry x + uptoBulkEntries r
def uptoBulkEntry {H : Type} : Lit × DataW H → Nat
  | (.string bytes, d) => bytes.length + uptoBulk d + 1
  | (_, d) => uptoBulk d + 1
 end
def uptoSmall : (H : Type) → List (DataW H) → Bool := fun _ ds => decide (uptoBulkAll ds ≤ 1048576)
def OpenSpec.upto (s : _root_.Go.ChangeSpec) : _root_.Go.OpenSpec := { _root_.Go.OpenSpec.ofChange s with cond := some uptoSmall }

/-- 'awardingbodylaw01.RatioParses', WHERE WHAT IT READS IS OF BULK AT MOST 1048576: true; the input reads as it did. -/
def ratioParsesUptoRow : OpenClaim := { program := "ytfioceejanpjfaa", sum := "612aae3f1bf054a80bd8a1ff5f2670fbc94ba2e8f212850da685064259fb6095", func := "awardingbody/awardingbodylaw01.RatioParses", spec := "ratioParses", inPlace := ["math/bits.Add64", "math/bits.Sub64"], unfollowed := true, recurses := true, named := ["math/bits.divideError", "math/bits.overflowError"], apart := false, narrowed := true }
def RatioParsesUptoSaid : Prop := ratioParsesUptoRow.holds Try.pinned (OpenSpec.upto ratioParsesSpec)

/-- 'awardingbodylaw01.RatioReads', WHERE WHAT IT READS IS OF BULK AT MOST 1048576: true; the input reads as it did. -/
def ratioReadsUptoRow : OpenClaim := { program := "ytfioceejanpjfaa", sum := "612aae3f1bf054a80bd8a1ff5f2670fbc94ba2e8f212850da685064259fb6095", func := "awardingbody/awardingbodylaw01.RatioReads", spec := "ratioReads", inPlace := ["math/bits.Add64", "math/bits.Sub64"], unfollowed := true, recurses := true, named := ["math/bits.divideError", "math/bits.overflowError"], apart := false, narrowed := true }
def RatioReadsUptoSaid : Prop := ratioReadsUptoRow.holds Try.pinned (OpenSpec.upto ratioReadsSpec)

/-- 'awardingbodylaw01.RatioSumsLong', WHERE WHAT IT READS IS OF BULK AT MOST 1048576: true; the input reads as it did. -/
def ratioSumsLongUptoRow : OpenClaim := { program := "ytfioceejanpjfaa", sum := "612aae3f1bf054a80bd8a1ff5f2670fbc94ba2e8f212850da685064259fb6095", func := "awardingbody/awardingbodylaw01.RatioSumsLong", spec := "ratioSumsLong", inPlace := ["math/bits.Add64", "math/bits.Sub64"], unfollowed := true, recurses := true, named := ["math/bits.divideError", "math/bits.overflowError"], apart := false, narrowed := true }
def RatioSumsLongUptoSaid : Prop := ratioSumsLongUptoRow.holds Try.pinned (OpenSpec.upto ratioSumsLongSpec)

/-- 'awardingbodylaw01.RatioField', WHERE WHAT IT READS IS OF BULK AT MOST 1048576: true; the input reads as it did. -/
def ratioFieldUptoRow : OpenClaim := { program := "ytfioceejanpjfaa", sum := "612aae3f1bf054a80bd8a1ff5f2670fbc94ba2e8f212850da685064259fb6095", func := "awardingbody/awardingbodylaw01.RatioField", spec := "ratioField", inPlace := ["math/bits.Sub64", "math/bits.Add64"], unfollowed := true, recurses := true, named := ["math/bits.divideError", "math/bits.overflowError"], apart := false, narrowed := true }
def RatioFieldUptoSaid : Prop := ratioFieldUptoRow.holds Try.pinned (OpenSpec.upto ratioFieldSpec)

/-- 'awardingbodylaw01.RatioNear', WHERE WHAT IT READS IS OF BULK AT MOST 1048576: true; the input reads as it did. -/
def ratioNearUptoRow : OpenClaim := { program := "ytfioceejanpjfaa", sum := "612aae3f1bf054a80bd8a1ff5f2670fbc94ba2e8f212850da685064259fb6095", func := "awardingbody/awardingbodylaw01.RatioNear", spec := "ratioNear", inPlace := ["math/bits.Sub64", "math/bits.Add64"], unfollowed := true, recurses := true, named := ["math/bits.divideError", "math/bits.overflowError"], apart := false, narrowed := true }
def RatioNearUptoSaid : Prop := ratioNearUptoRow.holds Try.pinned (OpenSpec.upto ratioNearSpec)

end Rows
end Go.Proofs.Ytfioceejanpjfaa
