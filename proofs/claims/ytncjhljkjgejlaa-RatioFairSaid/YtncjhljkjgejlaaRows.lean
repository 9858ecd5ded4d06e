/-
  No cell of these rows narrows 'for every input' (looked for: loops, veiled, ifaces, maps, wideKeys, modest, calm, conditions, laid).
  DERIVED. THE GIVEN ROWS OF THIS SEAT. 11 by the template 'for every input the law returns true; each argument reads behind the call as it read before'; 0 by the template 'total and deterministic' (their statements: YtncjhljkjgejlaaTotals.lean).
  GIVEN WITH THE SEED: the statements are not yours to turn. If you find one false, say at which input.
  Laid BY PROGRAM, IN A SANDBOX (cutbox-rows.mjs): the forced cells as the released guide's own fill.sh prints them over the translation f410918b18e91128… (all of the seat's roots in one cut). By AI agents, Wed Nov 11 2026. No macro, syntax, notation, axiom, sorry.
-/
import Derived.Test.YtncjhljkjgejlaaChecked
import GoSem.Claim
import GoSem.ClaimJoined
import GoSem.ClaimMapViews
import Derived.JoinedTies
import Derived.KernelRfl
namespace Go.Proofs.Ytncjhljkjgejlaa
/- THE CELL 'sum', in the pinned program and in every row, IS THE sha256 OF THE DUMP (.gsa) THAT YtncjhljkjgejlaaProg.lean LOADS. Nothing in Lean hashes anything: it is a label: what it is worth is what the hold of that sum in a sandbox is worth. -/
noncomputable def Try.pinned : Pinned := { name := "ytncjhljkjgejlaa", sum := "f410918b18e91128c5b2c52229deede9cc3a2b12a64ac24c6bb47c4d030d49a3", checked := Try.checked }
namespace Rows
def none {H : Type} : Left H := { results := [], args := [] }

/-- 'awardingbodylaw01.RatioApportions': WHATEVER THE INPUT: true; the input reads as it did. -/
def ratioApportionsSpec : ChangeSpec := { name := "ratioApportions", fn := fun _ => fun
  | [d1, d2] => { results := [.lit (.bool true)], args := [d1, d2] }
  | _ => none }
def ratioApportionsRow : OpenClaim := { program := "ytncjhljkjgejlaa", sum := "f410918b18e91128c5b2c52229deede9cc3a2b12a64ac24c6bb47c4d030d49a3", func := "awardingbody/awardingbodylaw01.RatioApportions", spec := "ratioApportions", unfollowed := true, recurses := true, named := ["math/bits.divideError", "math/bits.overflowError"], apart := false }
def RatioApportionsSaid : Prop := ratioApportionsRow.holds Try.pinned (OpenSpec.ofChange ratioApportionsSpec)

/-- ITS FALSE NEIGHBOUR: 'it returns false'. Refute it at one input. -/
def ratioApportionsWrong : ChangeSpec := { name := "ratioApportions", fn := fun _ => fun
  | [d1, d2] => { results := [.lit (.bool false)], args := [d1, d2] }
  | _ => none }
def RatioApportionsWrongFalsely : Prop := ratioApportionsRow.holds Try.pinned (OpenSpec.ofChange ratioApportionsWrong)

/-- 'awardingbodylaw01.RatioFair': WHATEVER THE INPUT: true; the input reads as it did. -/
def ratioFairSpec : ChangeSpec := { name := "ratioFair", fn := fun _ => fun
  | [d1, d2] => { results := [.lit (.bool true)], args := [d1, d2] }
  | _ => none }
def ratioFairRow : OpenClaim := { program := "ytncjhljkjgejlaa", sum := "f410918b18e91128c5b2c52229deede9cc3a2b12a64ac24c6bb47c4d030d49a3", func := "awardingbody/awardingbodylaw01.RatioFair", spec := "ratioFair", unfollowed := true, recurses := true, named := ["math/bits.divideError", "math/bits.overflowError"], apart := false }
def RatioFairSaid : Prop := ratioFairRow.holds Try.pinned (OpenSpec.ofChange ratioFairSpec)

/-- ITS FALSE NEIGHBOUR: 'it returns false'. Refute it at one input. -/
def ratioFairWrong : ChangeSpec := { name := "ratioFair", fn := fun _ => fun
  | [d1, d2] => { results := [.lit (.bool false)], args := [d1, d2] }
  | _ => none }
def RatioFairWrongFalsely : Prop := ratioFairRow.holds Try.pinned (OpenSpec.ofChange ratioFairWrong)

/-- 'awardingbodylaw01.RatioMakes': WHATEVER THE INPUT: true; the input reads as it did. -/
def ratioMakesSpec : ChangeSpec := { name := "ratioMakes", fn := fun _ => fun
  | [d1, d2] => { results := [.lit (.bool true)], args := [d1, d2] }
  | _ => none }
def ratioMakesRow : OpenClaim := { program := "ytncjhljkjgejlaa", sum := "f410918b18e91128c5b2c52229deede9cc3a2b12a64ac24c6bb47c4d030d49a3", func := "awardingbody/awardingbodylaw01.RatioMakes", spec := "ratioMakes", inPlace := ["math/bits.Sub64"], unfollowed := true, recurses := true, named := ["math/bits.divideError", "math/bits.overflowError"], apart := false }
def RatioMakesSaid : Prop := ratioMakesRow.holds Try.pinned (OpenSpec.ofChange ratioMakesSpec)

/-- ITS FALSE NEIGHBOUR: 'it returns false'. Refute it at one input. -/
def ratioMakesWrong : ChangeSpec := { name := "ratioMakes", fn := fun _ => fun
  | [d1, d2] => { results := [.lit (.bool false)], args := [d1, d2] }
  | _ => none }
def RatioMakesWrongFalsely : Prop := ratioMakesRow.holds Try.pinned (OpenSpec.ofChange ratioMakesWrong)

/-- 'awardingbodylaw01.RatioValid': WHATEVER THE INPUT: true; the input reads as it did. -/
def ratioValidSpec : ChangeSpec := { name := "ratioValid", fn := fun _ => fun
  | [d1, d2] => { results := [.lit (.bool true)], args := [d1, d2] }
  | _ => none }
def ratioValidRow : OpenClaim := { program := "ytncjhljkjgejlaa", sum := "f410918b18e91128c5b2c52229deede9cc3a2b12a64ac24c6bb47c4d030d49a3", func := "awardingbody/awardingbodylaw01.RatioValid", spec := "ratioValid", inPlace := ["math/bits.Sub64"], unfollowed := true, recurses := true, named := ["math/bits.divideError", "math/bits.overflowError"], apart := false }
def RatioValidSaid : Prop := ratioValidRow.holds Try.pinned (OpenSpec.ofChange ratioValidSpec)

/-- ITS FALSE NEIGHBOUR: 'it returns false'. Refute it at one input. -/
def ratioValidWrong : ChangeSpec := { name := "ratioValid", fn := fun _ => fun
  | [d1, d2] => { results := [.lit (.bool false)], args := [d1, d2] }
  | _ => none }
def RatioValidWrongFalsely : Prop := ratioValidRow.holds Try.pinned (OpenSpec.ofChange ratioValidWrong)

/-- 'awardingbodylaw01.RatioRounds': WHATEVER THE INPUT: true; the input reads as it did. -/
def ratioRoundsSpec : ChangeSpec := { name := "ratioRounds", fn := fun _ => fun
  | [d] => { results := [.lit (.bool true)], args := [d] }
  | _ => none }
def ratioRoundsRow : OpenClaim := { program := "ytncjhljkjgejlaa", sum := "f410918b18e91128c5b2c52229deede9cc3a2b12a64ac24c6bb47c4d030d49a3", func := "awardingbody/awardingbodylaw01.RatioRounds", spec := "ratioRounds", inPlace := ["math/bits.Sub64"], unfollowed := true, recurses := true, named := ["math/bits.divideError", "math/bits.overflowError"], apart := false }
def RatioRoundsSaid : Prop := ratioRoundsRow.holds Try.pinned (OpenSpec.ofChange ratioRoundsSpec)

/-- ITS FALSE NEIGHBOUR: 'it returns false'. Refute it at one input. -/
def ratioRoundsWrong : ChangeSpec := { name := "ratioRounds", fn := fun _ => fun
  | [d] => { results := [.lit (.bool false)], args := [d] }
  | _ => none }
def RatioRoundsWrongFalsely : Prop := ratioRoundsRow.holds Try.pinned (OpenSpec.ofChange ratioRoundsWrong)

/-- 'awardingbodylaw01.RatioMultiplies': WHATEVER THE INPUT: true; the input reads as it did. -/
def ratioMultipliesSpec : ChangeSpec := { name := "ratioMultiplies", fn := fun _ => fun
  | [d] => { results := [.lit (.bool true)], args := [d] }
  | _ => none }
def ratioMultipliesRow : OpenClaim := { program := "ytncjhljkjgejlaa", sum := "f410918b18e91128c5b2c52229deede9cc3a2b12a64ac24c6bb47c4d030d49a3", func := "awardingbody/awardingbodylaw01.RatioMultiplies", spec := "ratioMultiplies", inPlace := ["math/bits.Sub64"], unfollowed := true, recurses := true, named := ["math/bits.divideError", "math/bits.overflowError"], apart := false }
def RatioMultipliesSaid : Prop := ratioMultipliesRow.holds Try.pinned (OpenSpec.ofChange ratioMultipliesSpec)

/-- ITS FALSE NEIGHBOUR: 'it returns false'. Refute it at one input. -/
def ratioMultipliesWrong : ChangeSpec := { name := "ratioMultiplies", fn := fun _ => fun
  | [d] => { results := [.lit (.bool false)], args := [d] }
  | _ => none }
def RatioMultipliesWrongFalsely : Prop := ratioMultipliesRow.holds Try.pinned (OpenSpec.ofChange ratioMultipliesWrong)

/-- 'awardingbodylaw01.RatioCompares': WHATEVER THE INPUT: true; the input reads as it did. -/
def ratioComparesSpec : ChangeSpec := { name := "ratioCompares", fn := fun _ => fun
  | [d1, d2, d3, d4] => { results := [.lit (.bool true)], args := [d1, d2, d3, d4] }
  | _ => none }
def ratioComparesRow : OpenClaim := { program := "ytncjhljkjgejlaa", sum := "f410918b18e91128c5b2c52229deede9cc3a2b12a64ac24c6bb47c4d030d49a3", func := "awardingbody/awardingbodylaw01.RatioCompares", spec := "ratioCompares", inPlace := ["math/bits.Sub64", "math/bits.Add64"], unfollowed := true, recurses := true, named := ["math/bits.divideError", "math/bits.overflowError"], apart := false }
def RatioComparesSaid : Prop := ratioComparesRow.holds Try.pinned (OpenSpec.ofChange ratioComparesSpec)

/-- ITS FALSE NEIGHBOUR: 'it returns false'. Refute it at one input. -/
def ratioComparesWrong : ChangeSpec := { name := "ratioCompares", fn := fun _ => fun
  | [d1, d2, d3, d4] => { results := [.lit (.bool false)], args := [d1, d2, d3, d4] }
  | _ => none }
def RatioComparesWrongFalsely : Prop := ratioComparesRow.holds Try.pinned (OpenSpec.ofChange ratioComparesWrong)

/-- 'awardingbodylaw01.RatioAdds': WHATEVER THE INPUT: true; the input reads as it did. -/
def ratioAddsSpec : ChangeSpec := { name := "ratioAdds", fn := fun _ => fun
  | [d] => { results := [.lit (.bool true)], args := [d] }
  | _ => none }
def ratioAddsRow : OpenClaim := { program := "ytncjhljkjgejlaa", sum := "f410918b18e91128c5b2c52229deede9cc3a2b12a64ac24c6bb47c4d030d49a3", func := "awardingbody/awardingbodylaw01.RatioAdds", spec := "ratioAdds", inPlace := ["math/bits.Sub64", "math/bits.Add64"], unfollowed := true, recurses := true, named := ["math/bits.divideError", "math/bits.overflowError"], apart := false }
def RatioAddsSaid : Prop := ratioAddsRow.holds Try.pinned (OpenSpec.ofChange ratioAddsSpec)

/-- ITS FALSE NEIGHBOUR: 'it returns false'. Refute it at one input. -/
def ratioAddsWrong : ChangeSpec := { name := "ratioAdds", fn := fun _ => fun
  | [d] => { results := [.lit (.bool false)], args := [d] }
  | _ => none }
def RatioAddsWrongFalsely : Prop := ratioAddsRow.holds Try.pinned (OpenSpec.ofChange ratioAddsWrong)

/-- 'awardingbodylaw01.RatioSums': WHATEVER THE INPUT: true; the input reads as it did. -/
def ratioSumsSpec : ChangeSpec := { name := "ratioSums", fn := fun _ => fun
  | [d] => { results := [.lit (.bool true)], args := [d] }
  | _ => none }
def ratioSumsRow : OpenClaim := { program := "ytncjhljkjgejlaa", sum := "f410918b18e91128c5b2c52229deede9cc3a2b12a64ac24c6bb47c4d030d49a3", func := "awardingbody/awardingbodylaw01.RatioSums", spec := "ratioSums", inPlace := ["math/bits.Sub64", "math/bits.Add64"], unfollowed := true, recurses := true, named := ["math/bits.divideError", "math/bits.overflowError"], apart := false }
def RatioSumsSaid : Prop := ratioSumsRow.holds Try.pinned (OpenSpec.ofChange ratioSumsSpec)

/-- ITS FALSE NEIGHBOUR: 'it returns false'. Refute it at one input. -/
def ratioSumsWrong : ChangeSpec := { name := "ratioSums", fn := fun _ => fun
  | [d] => { results := [.lit (.bool false)], args := [d] }
  | _ => none }
def RatioSumsWrongFalsely : Prop := ratioSumsRow.holds Try.pinned (OpenSpec.ofChange ratioSumsWrong)

/-- 'awardingbodylaw01.RatioSumsAnyOrder': WHATEVER THE INPUT: true; the input reads as it did. -/
def ratioSumsAnyOrderSpec : ChangeSpec := { name := "ratioSumsAnyOrder", fn := fun _ => fun
  | [d] => { results := [.lit (.bool true)], args := [d] }
  | _ => none }
def ratioSumsAnyOrderRow : OpenClaim := { program := "ytncjhljkjgejlaa", sum := "f410918b18e91128c5b2c52229deede9cc3a2b12a64ac24c6bb47c4d030d49a3", func := "awardingbody/awardingbodylaw01.RatioSumsAnyOrder", spec := "ratioSumsAnyOrder", inPlace := ["math/bits.Sub64", "math/bits.Add64"], unfollowed := true, recurses := true, named := ["math/bits.divideError", "math/bits.overflowError"], apart := false }
def RatioSumsAnyOrderSaid : Prop := ratioSumsAnyOrderRow.holds Try.pinned (OpenSpec.ofChange ratioSumsAnyOrderSpec)

/-- ITS FALSE NEIGHBOUR: 'it returns false'. Refute it at one input. -/
def ratioSumsAnyOrderWrong : ChangeSpec := { name := "ratioSumsAnyOrder", fn := fun _ => fun
  | [d] => { results := [.lit (.bool false)], args := [d] }
  | _ => none }
def RatioSumsAnyOrderWrongFalsely : Prop := ratioSumsAnyOrderRow.holds Try.pinned (OpenSpec.ofChange ratioSumsAnyOrderWrong)

/-- 'awardingbodylaw01.RatioOrders': WHATEVER THE INPUT: true; the input reads as it did. -/
def ratioOrdersSpec : ChangeSpec := { name := "ratioOrders", fn := fun _ => fun
  | [d] => { results := [.lit (.bool true)], args := [d] }
  | _ => none }
def ratioOrdersRow : OpenClaim := { program := "ytncjhljkjgejlaa", sum := "f410918b18e91128c5b2c52229deede9cc3a2b12a64ac24c6bb47c4d030d49a3", func := "awardingbody/awardingbodylaw01.RatioOrders", spec := "ratioOrders", inPlace := ["math/bits.Sub64", "math/bits.Add64"], unfollowed := true, recurses := true, named := ["math/bits.divideError", "math/bits.overflowError"], apart := false }
def RatioOrdersSaid : Prop := ratioOrdersRow.holds Try.pinned (OpenSpec.ofChange ratioOrdersSpec)

/-- ITS FALSE NEIGHBOUR: 'it returns false'. Refute it at one input. -/
def ratioOrdersWrong : ChangeSpec := { name := "ratioOrders", fn := fun _ => fun
  | [d] => { results := [.lit (.bool false)], args := [d] }
  | _ => none }
def RatioOrdersWrongFalsely : Prop := ratioOrdersRow.holds Try.pinned (OpenSpec.ofChange ratioOrdersWrong)

/- THE SECOND FORM. 'bulk': how many values and letters a reading holds, each counted each time it is reached (what is shared counts as often as it is met; a slice's spare places count too). A statement '..UptoSaid' is the law's where the arguments, and the package variables that the reading takes, are together of bulk at most 1048576: NARROWER than '..Said'. Prove '..Said' where nothing that the law and all that it calls make is longer than what came in: it says more and counts as full. Else prove '..UptoSaid'. A law counts once. -/
mutual
def uptoBulk {H : Type} : DataW H → Nat
  | .lit (.string bytes) => bytes.length + 1
  | .lit _ => 1
  | .nil => 1
  | .ptr d => uptoBulk d + 1
  | .slice elems spare => uptoBulkAll elems + uptoBulkAll spare + 1
  | .agg parts => uptoBulkAll parts + 1
  | .iface _ d => uptoBulk d + 1
  | .map entries => uptoBulkEntries entries + 1
  | .held _ => 1
def uptoBulkAll {H : Type} : List (DataW H) → Nat
  | [] => 0
  | d :: r => uptoBulk d + uptoBulkAll r
def uptoBulkEntries {H : Type} : List (Lit × DataW H) → Nat
  | [] => 0
  | x :: r => uptoBulkEntry x + uptoBulkEntries r
def uptoBulkEntry {H : Type} : Lit × DataW H → Nat
  | (.string bytes, d) => bytes.length + uptoBulk d + 1
  | (_, d) => uptoBulk d + 1
 end
def uptoSmall : (H : Type) → List (DataW H) → Bool := fun _ ds => decide (uptoBulkAll ds ≤ 1048576)
def OpenSpec.upto (s : _root_.Go.ChangeSpec) : _root_.Go.OpenSpec := { _root_.Go.OpenSpec.ofChange s with cond := some uptoSmall }

/-- 'awardingbodylaw01.RatioApportions', WHERE WHAT IT READS IS OF BULK AT MOST 1048576: true; the input reads as it did. -/
def ratioApportionsUptoRow : OpenClaim := { program := "ytncjhljkjgejlaa", sum := "f410918b18e91128c5b2c52229deede9cc3a2b12a64ac24c6bb47c4d030d49a3", func := "awardingbody/awardingbodylaw01.RatioApportions", spec := "ratioApportions", unfollowed := true, recurses := true, named := ["math/bits.divideError", "math/bits.overflowError"], apart := false, narrowed := true }
def RatioApportionsUptoSaid : Prop := ratioApportionsUptoRow.holds Try.pinned (OpenSpec.upto ratioApportionsSpec)

/-- 'awardingbodylaw01.RatioFair', WHERE WHAT IT READS IS OF BULK AT MOST 1048576: true; the input reads as it did. -/
def ratioFairUptoRow : OpenClaim := { program := "ytncjhljkjgejlaa", sum := "f410918b18e91128c5b2c52229deede9cc3a2b12a64ac24c6bb47c4d030d49a3", func := "awardingbody/awardingbodylaw01.RatioFair", spec := "ratioFair", unfollowed := true, recurses := true, named := ["math/bits.divideError", "math/bits.overflowError"], apart := false, narrowed := true }
def RatioFairUptoSaid : Prop := ratioFairUptoRow.holds Try.pinned (OpenSpec.upto ratioFairSpec)

/-- 'awardingbodylaw01.RatioMakes', WHERE WHAT IT READS IS OF BULK AT MOST 1048576: true; the input reads as it did. -/
def ratioMakesUptoRow : OpenClaim := { program := "ytncjhljkjgejlaa", sum := "f410918b18e91128c5b2c52229deede9cc3a2b12a64ac24c6bb47c4d030d49a3", func := "awardingbody/awardingbodylaw01.RatioMakes", spec := "ratioMakes", inPlace := ["math/bits.Sub64"], unfollowed := true, recurses := true, named := ["math/bits.divideError", "math/bits.overflowError"], apart := false, narrowed := true }
def RatioMakesUptoSaid : Prop := ratioMakesUptoRow.holds Try.pinned (OpenSpec.upto ratioMakesSpec)

/-- 'awardingbodylaw01.RatioValid', WHERE WHAT IT READS IS OF BULK AT MOST 1048576: true; the input reads as it did. -/
def ratioValidUptoRow : OpenClaim := { program := "ytncjhljkjgejlaa", sum := "f410918b18e91128c5b2c52229deede9cc3a2b12a64ac24c6bb47c4d030d49a3", func := "awardingbody/awardingbodylaw01.RatioValid", spec := "ratioValid", inPlace := ["math/bits.Sub64"], unfollowed := true, recurses := true, named := ["math/bits.divideError", "math/bits.overflowError"], apart := false, narrowed := true }
def RatioValidUptoSaid : Prop := ratioValidUptoRow.holds Try.pinned (OpenSpec.upto ratioValidSpec)

/-- 'awardingbodylaw01.RatioRounds', WHERE WHAT IT READS IS OF BULK AT MOST 1048576: true; the input reads as it did. -/
def ratioRoundsUptoRow : OpenClaim := { program := "ytncjhljkjgejlaa", sum := "f410918b18e91128c5b2c52229deede9cc3a2b12a64ac24c6bb47c4d030d49a3", func := "awardingbody/awardingbodylaw01.RatioRounds", spec := "ratioRounds", inPlace := ["math/bits.Sub64"], unfollowed := true, recurses := true, named := ["math/bits.divideError", "math/bits.overflowError"], apart := false, narrowed := true }
def RatioRoundsUptoSaid : Prop := ratioRoundsUptoRow.holds Try.pinned (OpenSpec.upto ratioRoundsSpec)

/-- 'awardingbodylaw01.RatioMultiplies', WHERE WHAT IT READS IS OF BULK AT MOST 1048576: true; the input reads as it did. -/
def ratioMultipliesUptoRow : OpenClaim := { program := "ytncjhljkjgejlaa", sum := "f410918b18e91128c5b2c52229deede9cc3a2b12a64ac24c6bb47c4d030d49a3", func := "awardingbody/awardingbodylaw01.RatioMultiplies", spec := "ratioMultiplies", inPlace := ["math/bits.Sub64"], unfollowed := true, recurses := true, named := ["math/bits.divideError", "math/bits.overflowError"], apart := false, narrowed := true }
def RatioMultipliesUptoSaid : Prop := ratioMultipliesUptoRow.holds Try.pinned (OpenSpec.upto ratioMultipliesSpec)

/-- 'awardingbodylaw01.RatioCompares', WHERE WHAT IT READS IS OF BULK AT MOST 1048576: true; the input reads as it did. -/
def ratioComparesUptoRow : OpenClaim := { program := "ytncjhljkjgejlaa", sum := "f410918b18e91128c5b2c52229deede9cc3a2b12a64ac24c6bb47c4d030d49a3", func := "awardingbody/awardingbodylaw01.RatioCompares", spec := "ratioCompares", inPlace := ["math/bits.Sub64", "math/bits.Add64"], unfollowed := true, recurses := true, named := ["math/bits.divideError", "math/bits.overflowError"], apart := false, narrowed := true }
def RatioComparesUptoSaid : Prop := ratioComparesUptoRow.holds Try.pinned (OpenSpec.upto ratioComparesSpec)

/-- 'awardingbodylaw01.RatioAdds', WHERE WHAT IT READS IS OF BULK AT MOST 1048576: true; the input reads as it did. -/
def ratioAddsUptoRow : OpenClaim := { program := "ytncjhljkjgejlaa", sum := "f410918b18e91128c5b2c52229deede9cc3a2b12a64ac24c6bb47c4d030d49a3", func := "awardingbody/awardingbodylaw01.RatioAdds", spec := "ratioAdds", inPlace := ["math/bits.Sub64", "math/bits.Add64"], unfollowed := true, recurses := true, named := ["math/bits.divideError", "math/bits.overflowError"], apart := false, narrowed := true }
def RatioAddsUptoSaid : Prop := ratioAddsUptoRow.holds Try.pinned (OpenSpec.upto ratioAddsSpec)

/-- 'awardingbodylaw01.RatioSums', WHERE WHAT IT READS IS OF BULK AT MOST 1048576: true; the input reads as it did. -/
def ratioSumsUptoRow : OpenClaim := { program := "ytncjhljkjgejlaa", sum := "f410918b18e91128c5b2c52229deede9cc3a2b12a64ac24c6bb47c4d030d49a3", func := "awardingbody/awardingbodylaw01.RatioSums", spec := "ratioSums", inPlace := ["math/bits.Sub64", "math/bits.Add64"], unfollowed := true, recurses := true, named := ["math/bits.divideError", "math/bits.overflowError"], apart := false, narrowed := true }
def RatioSumsUptoSaid : Prop := ratioSumsUptoRow.holds Try.pinned (OpenSpec.upto ratioSumsSpec)

/-- 'awardingbodylaw01.RatioSumsAnyOrder', WHERE WHAT IT READS IS OF BULK AT MOST 1048576: true; the input reads as it did. -/
def ratioSumsAnyOrderUptoRow : OpenClaim := { program := "ytncjhljkjgejlaa", sum := "f410918b18e91128c5b2c52229deede9cc3a2b12a64ac24c6bb47c4d030d49a3", func := "awardingbody/awardingbodylaw01.RatioSumsAnyOrder", spec := "ratioSumsAnyOrder", inPlace := ["math/bits.Sub64", "math/bits.Add64"], unfollowed := true, recurses := true, named := ["math/bits.divideError", "math/bits.overflowError"], apart := false, narrowed := true }
def RatioSumsAnyOrderUptoSaid : Prop := ratioSumsAnyOrderUptoRow.holds Try.pinned (OpenSpec.upto ratioSumsAnyOrderSpec)

/-- 'awardingbodylaw01.RatioOrders', WHERE WHAT IT READS IS OF BULK AT MOST 1048576: true; the input reads as it did. -/
def ratioOrdersUptoRow : OpenClaim := { program := "ytncjhljkjgejlaa", sum := "f410918b18e91128c5b2c52229deede9cc3a2b12a64ac24c6bb47c4d030d49a3", func := "awardingbody/awardingbodylaw01.RatioOrders", spec := "ratioOrders", inPlace := ["math/bits.Sub64", "math/bits.Add64"], unfollowed := true, recurses := true, named := ["math/bits.divideError", "math/bits.overflowError"], apart := false, narrowed := true }
def RatioOrdersUptoSaid : Prop := ratioOrdersUptoRow.holds Try.pinned (OpenSpec.upto ratioOrdersSpec)

end Rows
end Go.Proofs.Ytncjhljkjgejlaa
