/-
  DERIVED. GIVEN WITH THE SEED: THE CARDS: each row of YtmgjidfafnajnaaDoorRows.lean that lists a variable, with what it lists TIED to the program's text (the seventh form; the later family's looks); each row that meets fmt, with fmt's text TOLD by the authors' own Lean function (tested against real Go, not proved from fmt's source: count such statements apart). THE CARD IS WHAT COUNTS. Prove the row's statement (the work); the ties are given (YtmgjidfafnajnaaDoorTie.lean); close each card by the builder's one call (the guide's Derived/Test/ToyasCard.lean, 'card_holds'). Laid BY PROGRAM, IN A SANDBOX (cutbox-door.mjs). By AI agents, Wed Nov 11 2026. No macro, syntax, notation, axiom, sorry.
-/
import Derived.Test.YtmgjidfafnajnaaDoorRows
import GoSem.ClaimSeven
namespace Go.Proofs.YtmgjidfafnajnaaDoor
namespace Rows

/-- THE TIED CARD OF 'awardingbodytop.TopLabels'. -/
def topLabelsCard : Claim7 := { stood := { row := topLabelsRow, standIns := [], harness := (true, "740692687bfe4e1b5e5312dab0b3a2a29a0ffa08d29c4fed607ce65115fe4654"), looks := false }, kinds := [], alts := [], laidByText := true, laidKinds := [.data, .data], laidTests := true, laidLooks := .later }
def TopLabelsCardSaid : Prop := Claim7.holds Tryd.pinned (.plain (OpenSpec.ofChange topLabelsSpec)) topLabelsCard

/-- THE SECOND FORM's CARD OF 'awardingbodytop.TopLabels'. -/
def topLabelsUptoCard : Claim7 := { stood := { row := topLabelsUptoRow, standIns := [], harness := (true, "740692687bfe4e1b5e5312dab0b3a2a29a0ffa08d29c4fed607ce65115fe4654"), looks := false }, kinds := [], alts := [], laidByText := true, laidKinds := [.data, .data], laidTests := true, laidLooks := .later }
def TopLabelsUptoCardSaid : Prop := Claim7.holds Tryd.pinned (.plain (OpenSpec.upto topLabelsSpec)) topLabelsUptoCard
end Rows
end Go.Proofs.YtmgjidfafnajnaaDoor
