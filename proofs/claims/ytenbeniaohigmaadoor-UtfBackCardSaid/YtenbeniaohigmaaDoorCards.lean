/-
  DERIVED. GIVEN WITH THE SEED: THE CARDS: each row of YtenbeniaohigmaaDoorRows.lean that lists a variable, with what it lists TIED to the program's text (the seventh form; the later family's looks); each row that meets fmt, with fmt's text TOLD by the authors' own Lean function (tested against real Go, not proved from fmt's source: count such statements apart). THE CARD IS WHAT COUNTS. Prove the row's statement (the work); the ties are given (YtenbeniaohigmaaDoorTie.lean); close each card by the builder's one call (the guide's Derived/Test/ToyasCard.lean, 'card_holds'). Laid BY PROGRAM, IN A SANDBOX (cutbox-door.mjs). By AI agents, Wed Nov 11 2026. No macro, syntax, notation, axiom, sorry.
-/
import Derived.Test.YtenbeniaohigmaaDoorRows
import GoSem.ClaimSeven
namespace Go.Proofs.YtenbeniaohigmaaDoor
namespace Rows

/-- THE TIED CARD OF 'bosunlaw05.ValueGets'. -/
def valueGetsCard : Claim7 := { stood := { row := valueGetsRow, standIns := [], harness := (true, "a2676e6c775f264a6f3fcc6ccce5e78654f3eb48f3fddb4b79fef48aa976f3d3"), looks := false }, kinds := [], alts := [], laidByText := true, laidKinds := [.data, .pinned], laidTests := true, laidLooks := .later }
def ValueGetsCardSaid : Prop := Claim7.holds Tryd.pinned (.plain (OpenSpec.ofChange valueGetsSpec)) valueGetsCard

/-- THE TIED CARD OF 'bosunlaw05.ValueChecks'. -/
def valueChecksCard : Claim7 := { stood := { row := valueChecksRow, standIns := [], harness := (true, "a2676e6c775f264a6f3fcc6ccce5e78654f3eb48f3fddb4b79fef48aa976f3d3"), looks := false }, kinds := [], alts := [], laidByText := true, laidKinds := [.data, .pinned], laidTests := true, laidLooks := .later }
def ValueChecksCardSaid : Prop := Claim7.holds Tryd.pinned (.plain (OpenSpec.ofChange valueChecksSpec)) valueChecksCard

/-- THE TIED CARD OF 'bosunlaw05.ValueAlike'. -/
def valueAlikeCard : Claim7 := { stood := { row := valueAlikeRow, standIns := [], harness := (true, "a2676e6c775f264a6f3fcc6ccce5e78654f3eb48f3fddb4b79fef48aa976f3d3"), looks := false }, kinds := [], alts := [], laidByText := true, laidKinds := [.data, .pinned], laidTests := true, laidLooks := .later }
def ValueAlikeCardSaid : Prop := Claim7.holds Tryd.pinned (.plain (OpenSpec.ofChange valueAlikeSpec)) valueAlikeCard

/-- THE TIED CARD OF 'bosunlaw06.UtfBack'. -/
def utfBackCard : Claim7 := { stood := { row := utfBackRow, standIns := [], harness := (true, "a2676e6c775f264a6f3fcc6ccce5e78654f3eb48f3fddb4b79fef48aa976f3d3"), looks := false }, kinds := [], alts := [], laidByText := true, laidKinds := [.data, .pinned], laidTests := true, laidLooks := .later }
def UtfBackCardSaid : Prop := Claim7.holds Tryd.pinned (.plain (OpenSpec.ofChange utfBackSpec)) utfBackCard

/-- THE TIED CARD OF 'bosunlaw13.DnsParts'. -/
def dnsPartsCard : Claim7 := { stood := { row := dnsPartsRow, standIns := [], harness := (true, "a2676e6c775f264a6f3fcc6ccce5e78654f3eb48f3fddb4b79fef48aa976f3d3"), looks := false }, kinds := [], alts := [], laidByText := true, laidKinds := [.data, .pinned], laidTests := true, laidLooks := .later }
def DnsPartsCardSaid : Prop := Claim7.holds Tryd.pinned (.plain (OpenSpec.ofChange dnsPartsSpec)) dnsPartsCard

/-- THE TIED CARD OF 'bosunlaw06.UtfQuotes'. -/
def utfQuotesCard : Claim7 := { stood := { row := utfQuotesRow, standIns := [], harness := (true, "a2676e6c775f264a6f3fcc6ccce5e78654f3eb48f3fddb4b79fef48aa976f3d3"), looks := false }, kinds := [], alts := [], laidByText := true, laidKinds := [.data, .pinned], laidTests := true, laidLooks := .later }
def UtfQuotesCardSaid : Prop := Claim7.holds Tryd.pinned (.plain (OpenSpec.ofChange utfQuotesSpec)) utfQuotesCard

/-- THE SECOND FORM's CARD OF 'bosunlaw05.ValueGets'. -/
def valueGetsUptoCard : Claim7 := { stood := { row := valueGetsUptoRow, standIns := [], harness := (true, "a2676e6c775f264a6f3fcc6ccce5e78654f3eb48f3fddb4b79fef48aa976f3d3"), looks := false }, kinds := [], alts := [], laidByText := true, laidKinds := [.data, .pinned], laidTests := true, laidLooks := .later }
def ValueGetsUptoCardSaid : Prop := Claim7.holds Tryd.pinned (.plain (OpenSpec.upto valueGetsSpec)) valueGetsUptoCard

/-- THE SECOND FORM's CARD OF 'bosunlaw05.ValueChecks'. -/
def valueChecksUptoCard : Claim7 := { stood := { row := valueChecksUptoRow, standIns := [], harness := (true, "a2676e6c775f264a6f3fcc6ccce5e78654f3eb48f3fddb4b79fef48aa976f3d3"), looks := false }, kinds := [], alts := [], laidByText := true, laidKinds := [.data, .pinned], laidTests := true, laidLooks := .later }
def ValueChecksUptoCardSaid : Prop := Claim7.holds Tryd.pinned (.plain (OpenSpec.upto valueChecksSpec)) valueChecksUptoCard

/-- THE SECOND FORM's CARD OF 'bosunlaw05.ValueAlike'. -/
def valueAlikeUptoCard : Claim7 := { stood := { row := valueAlikeUptoRow, standIns := [], harness := (true, "a2676e6c775f264a6f3fcc6ccce5e78654f3eb48f3fddb4b79fef48aa976f3d3"), looks := false }, kinds := [], alts := [], laidByText := true, laidKinds := [.data, .pinned], laidTests := true, laidLooks := .later }
def ValueAlikeUptoCardSaid : Prop := Claim7.holds Tryd.pinned (.plain (OpenSpec.upto valueAlikeSpec)) valueAlikeUptoCard

/-- THE SECOND FORM's CARD OF 'bosunlaw06.UtfBack'. -/
def utfBackUptoCard : Claim7 := { stood := { row := utfBackUptoRow, standIns := [], harness := (true, "a2676e6c775f264a6f3fcc6ccce5e78654f3eb48f3fddb4b79fef48aa976f3d3"), looks := false }, kinds := [], alts := [], laidByText := true, laidKinds := [.data, .pinned], laidTests := true, laidLooks := .later }
def UtfBackUptoCardSaid : Prop := Claim7.holds Tryd.pinned (.plain (OpenSpec.upto utfBackSpec)) utfBackUptoCard

/-- THE SECOND FORM's CARD OF 'bosunlaw13.DnsParts'. -/
def dnsPartsUptoCard : Claim7 := { stood := { row := dnsPartsUptoRow, standIns := [], harness := (true, "a2676e6c775f264a6f3fcc6ccce5e78654f3eb48f3fddb4b79fef48aa976f3d3"), looks := false }, kinds := [], alts := [], laidByText := true, laidKinds := [.data, .pinned], laidTests := true, laidLooks := .later }
def DnsPartsUptoCardSaid : Prop := Claim7.holds Tryd.pinned (.plain (OpenSpec.upto dnsPartsSpec)) dnsPartsUptoCard

/-- THE SECOND FORM's CARD OF 'bosunlaw06.UtfQuotes'. -/
def utfQuotesUptoCard : Claim7 := { stood := { row := utfQuotesUptoRow, standIns := [], harness := (true, "a2676e6c775f264a6f3fcc6ccce5e78654f3eb48f3fddb4b79fef48aa976f3d3"), looks := false }, kinds := [], alts := [], laidByText := true, laidKinds := [.data, .pinned], laidTests := true, laidLooks := .later }
def UtfQuotesUptoCardSaid : Prop := Claim7.holds Tryd.pinned (.plain (OpenSpec.upto utfQuotesSpec)) utfQuotesUptoCard
end Rows
end Go.Proofs.YtenbeniaohigmaaDoor
