/-
  DERIVED. GIVEN WITH THE SEED: THE CARDS: each row of YtpflenjhmeaeoaaGreatDoorRows.lean that lists a variable, with what it lists TIED to the program's text (the seventh form; the later family's looks); each row that meets fmt, with fmt's text TOLD by the authors' own Lean function (tested against real Go, not proved from fmt's source: count such statements apart). THE CARD IS WHAT COUNTS. Prove the row's statement (the work); the ties are given (YtpflenjhmeaeoaaGreatDoorTie.lean); close each card by the builder's one call (the guide's Derived/Test/ToyasCard.lean, 'card_holds'). Laid BY PROGRAM, IN A SANDBOX (cutbox-door.mjs). By AI agents, Wed Nov 11 2026. No macro, syntax, notation, axiom, sorry.
-/
import Derived.Test.YtpflenjhmeaeoaaGreatDoorRows
import GoSem.ClaimSeven
namespace Go.Proofs.YtpflenjhmeaeoaaGreatDoor
namespace Rows

/-- THE TIED CARD OF 'bosunlaw23.DiffTells'. -/
def diffTellsCard : Claim7 := { stood := { row := diffTellsRow, standIns := [], harness := (true, "00f9d8f788cb649eca90d3d66f9facdbe895cb1063b57a64cf46573b596b6b41"), looks := false }, kinds := [], alts := [], laidByText := true, laidKinds := [.data, .pinned], laidTests := true, laidLooks := .later }
def DiffTellsCardSaid : Prop := Claim7.holds Tryz.pinned (.plain (OpenSpec.ofChange diffTellsSpec)) diffTellsCard

/-- THE SECOND FORM's CARD OF 'bosunlaw23.DiffTells'. -/
def diffTellsUptoCard : Claim7 := { stood := { row := diffTellsUptoRow, standIns := [], harness := (true, "00f9d8f788cb649eca90d3d66f9facdbe895cb1063b57a64cf46573b596b6b41"), looks := false }, kinds := [], alts := [], laidByText := true, laidKinds := [.data, .pinned], laidTests := true, laidLooks := .later }
def DiffTellsUptoCardSaid : Prop := Claim7.holds Tryz.pinned (.plain (OpenSpec.upto diffTellsSpec)) diffTellsUptoCard
end Rows
end Go.Proofs.YtpflenjhmeaeoaaGreatDoor
