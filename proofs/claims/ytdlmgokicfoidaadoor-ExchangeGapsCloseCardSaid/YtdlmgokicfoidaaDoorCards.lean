/-
  DERIVED. GIVEN WITH THE SEED: THE CARDS: each row of YtdlmgokicfoidaaDoorRows.lean that lists a variable, with what it lists TIED to the program's text (the seventh form; the later family's looks); each row that meets fmt, with fmt's text TOLD by the authors' own Lean function (tested against real Go, not proved from fmt's source: count such statements apart). THE CARD IS WHAT COUNTS. Prove the row's statement (the work); the ties are given (YtdlmgokicfoidaaDoorTie.lean); close each card by the builder's one call (the guide's Derived/Test/ToyasCard.lean, 'card_holds'). Laid BY PROGRAM, IN A SANDBOX (cutbox-door.mjs). By AI agents, Wed Nov 11 2026. No macro, syntax, notation, axiom, sorry.
-/
import Derived.Test.YtdlmgokicfoidaaDoorRows
import GoSem.ClaimSeven
namespace Go.Proofs.YtdlmgokicfoidaaDoor
namespace Rows

/-- THE TIED CARD OF 'awardingbodylaw03.ExchangeFormats'. -/
def exchangeFormatsCard : Claim7 := { stood := { row := exchangeFormatsRow, standIns := [], harness := (true, "e9eea02f244a3e5ab091ba94741cf80eb43f5c560fc05eed5a277bc74aeb5b0b"), looks := false }, kinds := [], alts := [], laidByText := true, laidKinds := [.data, .data, .data, .data, .pinned], laidTests := true, laidLooks := .later }
def ExchangeFormatsCardSaid : Prop := Claim7.holds Tryd.pinned (.plain (OpenSpec.ofChange exchangeFormatsSpec)) exchangeFormatsCard

/-- THE TIED CARD OF 'awardingbodylaw03.ExchangeLong'. -/
def exchangeLongCard : Claim7 := { stood := { row := exchangeLongRow, standIns := [], harness := (true, "e9eea02f244a3e5ab091ba94741cf80eb43f5c560fc05eed5a277bc74aeb5b0b"), looks := false }, kinds := [], alts := [], laidByText := true, laidKinds := [.data, .data, .data, .data, .pinned], laidTests := true, laidLooks := .later }
def ExchangeLongCardSaid : Prop := Claim7.holds Tryd.pinned (.plain (OpenSpec.ofChange exchangeLongSpec)) exchangeLongCard

/-- THE TIED CARD OF 'awardingbodylaw03.ExchangeParses'. -/
def exchangeParsesCard : Claim7 := { stood := { row := exchangeParsesRow, standIns := [], harness := (true, "e9eea02f244a3e5ab091ba94741cf80eb43f5c560fc05eed5a277bc74aeb5b0b"), looks := false }, kinds := [], alts := [], laidByText := true, laidKinds := [.data, .data, .data, .data, .pinned], laidTests := true, laidLooks := .later }
def ExchangeParsesCardSaid : Prop := Claim7.holds Tryd.pinned (.plain (OpenSpec.ofChange exchangeParsesSpec)) exchangeParsesCard

/-- THE TIED CARD OF 'awardingbodylaw03.ExchangeReads'. -/
def exchangeReadsCard : Claim7 := { stood := { row := exchangeReadsRow, standIns := [], harness := (true, "e9eea02f244a3e5ab091ba94741cf80eb43f5c560fc05eed5a277bc74aeb5b0b"), looks := false }, kinds := [], alts := [], laidByText := true, laidKinds := [.data, .data, .data, .data, .pinned], laidTests := true, laidLooks := .later }
def ExchangeReadsCardSaid : Prop := Claim7.holds Tryd.pinned (.plain (OpenSpec.ofChange exchangeReadsSpec)) exchangeReadsCard

/-- THE TIED CARD OF 'awardingbodylaw03.ExchangeChecks'. -/
def exchangeChecksCard : Claim7 := { stood := { row := exchangeChecksRow, standIns := [], harness := (true, "e9eea02f244a3e5ab091ba94741cf80eb43f5c560fc05eed5a277bc74aeb5b0b"), looks := false }, kinds := [], alts := [], laidByText := true, laidKinds := [.data, .data, .data, .data, .pinned], laidTests := true, laidLooks := .later }
def ExchangeChecksCardSaid : Prop := Claim7.holds Tryd.pinned (.plain (OpenSpec.ofChange exchangeChecksSpec)) exchangeChecksCard

/-- THE TIED CARD OF 'awardingbodylaw03.ExchangeBack'. -/
def exchangeBackCard : Claim7 := { stood := { row := exchangeBackRow, standIns := [], harness := (true, "e9eea02f244a3e5ab091ba94741cf80eb43f5c560fc05eed5a277bc74aeb5b0b"), looks := false }, kinds := [], alts := [], laidByText := true, laidKinds := [.data, .data, .data, .data, .pinned], laidTests := true, laidLooks := .later }
def ExchangeBackCardSaid : Prop := Claim7.holds Tryd.pinned (.plain (OpenSpec.ofChange exchangeBackSpec)) exchangeBackCard

/-- THE TIED CARD OF 'awardingbodylaw03.ExchangeDetects'. -/
def exchangeDetectsCard : Claim7 := { stood := { row := exchangeDetectsRow, standIns := [], harness := (true, "e9eea02f244a3e5ab091ba94741cf80eb43f5c560fc05eed5a277bc74aeb5b0b"), looks := false }, kinds := [], alts := [], laidByText := true, laidKinds := [.data, .data, .data, .data, .pinned], laidTests := true, laidLooks := .later }
def ExchangeDetectsCardSaid : Prop := Claim7.holds Tryd.pinned (.plain (OpenSpec.ofChange exchangeDetectsSpec)) exchangeDetectsCard

/-- THE TIED CARD OF 'awardingbodylaw03.ExchangeSwaps'. -/
def exchangeSwapsCard : Claim7 := { stood := { row := exchangeSwapsRow, standIns := [], harness := (true, "e9eea02f244a3e5ab091ba94741cf80eb43f5c560fc05eed5a277bc74aeb5b0b"), looks := false }, kinds := [], alts := [], laidByText := true, laidKinds := [.data, .data, .data, .data, .pinned], laidTests := true, laidLooks := .later }
def ExchangeSwapsCardSaid : Prop := Claim7.holds Tryd.pinned (.plain (OpenSpec.ofChange exchangeSwapsSpec)) exchangeSwapsCard

/-- THE TIED CARD OF 'awardingbodylaw03.ExchangeGaps'. -/
def exchangeGapsCard : Claim7 := { stood := { row := exchangeGapsRow, standIns := [], harness := (true, "e9eea02f244a3e5ab091ba94741cf80eb43f5c560fc05eed5a277bc74aeb5b0b"), looks := false }, kinds := [], alts := [], laidByText := true, laidKinds := [.data, .data, .data, .data, .pinned], laidTests := true, laidLooks := .later }
def ExchangeGapsCardSaid : Prop := Claim7.holds Tryd.pinned (.plain (OpenSpec.ofChange exchangeGapsSpec)) exchangeGapsCard

/-- THE TIED CARD OF 'awardingbodylaw03.ExchangeGapsClose'. -/
def exchangeGapsCloseCard : Claim7 := { stood := { row := exchangeGapsCloseRow, standIns := [], harness := (true, "e9eea02f244a3e5ab091ba94741cf80eb43f5c560fc05eed5a277bc74aeb5b0b"), looks := false }, kinds := [], alts := [], laidByText := true, laidKinds := [.data, .data, .data, .data, .pinned], laidTests := true, laidLooks := .later }
def ExchangeGapsCloseCardSaid : Prop := Claim7.holds Tryd.pinned (.plain (OpenSpec.ofChange exchangeGapsCloseSpec)) exchangeGapsCloseCard

/-- THE SECOND FORM's CARD OF 'awardingbodylaw03.ExchangeFormats'. -/
def exchangeFormatsUptoCard : Claim7 := { stood := { row := exchangeFormatsUptoRow, standIns := [], harness := (true, "e9eea02f244a3e5ab091ba94741cf80eb43f5c560fc05eed5a277bc74aeb5b0b"), looks := false }, kinds := [], alts := [], laidByText := true, laidKinds := [.data, .data, .data, .data, .pinned], laidTests := true, laidLooks := .later }
def ExchangeFormatsUptoCardSaid : Prop := Claim7.holds Tryd.pinned (.plain (OpenSpec.upto exchangeFormatsSpec)) exchangeFormatsUptoCard

/-- THE SECOND FORM's CARD OF 'awardingbodylaw03.ExchangeLong'. -/
def exchangeLongUptoCard : Claim7 := { stood := { row := exchangeLongUptoRow, standIns := [], harness := (true, "e9eea02f244a3e5ab091ba94741cf80eb43f5c560fc05eed5a277bc74aeb5b0b"), looks := false }, kinds := [], alts := [], laidByText := true, laidKinds := [.data, .data, .data, .data, .pinned], laidTests := true, laidLooks := .later }
def ExchangeLongUptoCardSaid : Prop := Claim7.holds Tryd.pinned (.plain (OpenSpec.upto exchangeLongSpec)) exchangeLongUptoCard

/-- THE SECOND FORM's CARD OF 'awardingbodylaw03.ExchangeParses'. -/
def exchangeParsesUptoCard : Claim7 := { stood := { row := exchangeParsesUptoRow, standIns := [], harness := (true, "e9eea02f244a3e5ab091ba94741cf80eb43f5c560fc05eed5a277bc74aeb5b0b"), looks := false }, kinds := [], alts := [], laidByText := true, laidKinds := [.data, .data, .data, .data, .pinned], laidTests := true, laidLooks := .later }
def ExchangeParsesUptoCardSaid : Prop := Claim7.holds Tryd.pinned (.plain (OpenSpec.upto exchangeParsesSpec)) exchangeParsesUptoCard

/-- THE SECOND FORM's CARD OF 'awardingbodylaw03.ExchangeReads'. -/
def exchangeReadsUptoCard : Claim7 := { stood := { row := exchangeReadsUptoRow, standIns := [], harness := (true, "e9eea02f244a3e5ab091ba94741cf80eb43f5c560fc05eed5a277bc74aeb5b0b"), looks := false }, kinds := [], alts := [], laidByText := true, laidKinds := [.data, .data, .data, .data, .pinned], laidTests := true, laidLooks := .later }
def ExchangeReadsUptoCardSaid : Prop := Claim7.holds Tryd.pinned (.plain (OpenSpec.upto exchangeReadsSpec)) exchangeReadsUptoCard

/-- THE SECOND FORM's CARD OF 'awardingbodylaw03.ExchangeChecks'. -/
def exchangeChecksUptoCard : Claim7 := { stood := { row := exchangeChecksUptoRow, standIns := [], harness := (true, "e9eea02f244a3e5ab091ba94741cf80eb43f5c560fc05eed5a277bc74aeb5b0b"), looks := false }, kinds := [], alts := [], laidByText := true, laidKinds := [.data, .data, .data, .data, .pinned], laidTests := true, laidLooks := .later }
def ExchangeChecksUptoCardSaid : Prop := Claim7.holds Tryd.pinned (.plain (OpenSpec.upto exchangeChecksSpec)) exchangeChecksUptoCard

/-- THE SECOND FORM's CARD OF 'awardingbodylaw03.ExchangeBack'. -/
def exchangeBackUptoCard : Claim7 := { stood := { row := exchangeBackUptoRow, standIns := [], harness := (true, "e9eea02f244a3e5ab091ba94741cf80eb43f5c560fc05eed5a277bc74aeb5b0b"), looks := false }, kinds := [], alts := [], laidByText := true, laidKinds := [.data, .data, .data, .data, .pinned], laidTests := true, laidLooks := .later }
def ExchangeBackUptoCardSaid : Prop := Claim7.holds Tryd.pinned (.plain (OpenSpec.upto exchangeBackSpec)) exchangeBackUptoCard

/-- THE SECOND FORM's CARD OF 'awardingbodylaw03.ExchangeDetects'. -/
def exchangeDetectsUptoCard : Claim7 := { stood := { row := exchangeDetectsUptoRow, standIns := [], harness := (true, "e9eea02f244a3e5ab091ba94741cf80eb43f5c560fc05eed5a277bc74aeb5b0b"), looks := false }, kinds := [], alts := [], laidByText := true, laidKinds := [.data, .data, .data, .data, .pinned], laidTests := true, laidLooks := .later }
def ExchangeDetectsUptoCardSaid : Prop := Claim7.holds Tryd.pinned (.plain (OpenSpec.upto exchangeDetectsSpec)) exchangeDetectsUptoCard

/-- THE SECOND FORM's CARD OF 'awardingbodylaw03.ExchangeSwaps'. -/
def exchangeSwapsUptoCard : Claim7 := { stood := { row := exchangeSwapsUptoRow, standIns := [], harness := (true, "e9eea02f244a3e5ab091ba94741cf80eb43f5c560fc05eed5a277bc74aeb5b0b"), looks := false }, kinds := [], alts := [], laidByText := true, laidKinds := [.data, .data, .data, .data, .pinned], laidTests := true, laidLooks := .later }
def ExchangeSwapsUptoCardSaid : Prop := Claim7.holds Tryd.pinned (.plain (OpenSpec.upto exchangeSwapsSpec)) exchangeSwapsUptoCard

/-- THE SECOND FORM's CARD OF 'awardingbodylaw03.ExchangeGaps'. -/
def exchangeGapsUptoCard : Claim7 := { stood := { row := exchangeGapsUptoRow, standIns := [], harness := (true, "e9eea02f244a3e5ab091ba94741cf80eb43f5c560fc05eed5a277bc74aeb5b0b"), looks := false }, kinds := [], alts := [], laidByText := true, laidKinds := [.data, .data, .data, .data, .pinned], laidTests := true, laidLooks := .later }
def ExchangeGapsUptoCardSaid : Prop := Claim7.holds Tryd.pinned (.plain (OpenSpec.upto exchangeGapsSpec)) exchangeGapsUptoCard

/-- THE SECOND FORM's CARD OF 'awardingbodylaw03.ExchangeGapsClose'. -/
def exchangeGapsCloseUptoCard : Claim7 := { stood := { row := exchangeGapsCloseUptoRow, standIns := [], harness := (true, "e9eea02f244a3e5ab091ba94741cf80eb43f5c560fc05eed5a277bc74aeb5b0b"), looks := false }, kinds := [], alts := [], laidByText := true, laidKinds := [.data, .data, .data, .data, .pinned], laidTests := true, laidLooks := .later }
def ExchangeGapsCloseUptoCardSaid : Prop := Claim7.holds Tryd.pinned (.plain (OpenSpec.upto exchangeGapsCloseSpec)) exchangeGapsCloseUptoCard
end Rows
end Go.Proofs.YtdlmgokicfoidaaDoor
