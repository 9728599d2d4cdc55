/-
  DERIVED. GIVEN WITH THE SEED: THE CARDS: each row of YticabhjmojcfoaaDoorRows.lean that lists a variable, with what it lists TIED to the program's text (the seventh form; the later family's looks); each row that meets fmt, with fmt's text TOLD by the authors' own Lean function (tested against real Go, not proved from fmt's source: count such statements apart). THE CARD IS WHAT COUNTS. Prove the row's statement (the work); the ties are given (YticabhjmojcfoaaDoorTie.lean); close each card by the builder's one call (the guide's Derived/Test/ToyasCard.lean, 'card_holds'). Laid BY PROGRAM, IN A SANDBOX (cutbox-door.mjs). By AI agents, Wed Nov 11 2026. No macro, syntax, notation, axiom, sorry.
-/
import Derived.Test.YticabhjmojcfoaaDoorRows
import GoSem.ClaimSeven
namespace Go.Proofs.YticabhjmojcfoaaDoor
namespace Rows

/-- THE TIED CARD OF 'bosunlaw10.YlinesCut'. -/
def ylinesCutCard : Claim7 := { stood := { row := ylinesCutRow, standIns := [], harness := (true, "bf554d9ddf73db1b30aa75274b6ccd0269f5b6f587b986159470f4ae0c38e53e"), looks := false }, kinds := [], alts := [], laidByText := true, laidKinds := [.data, .pinned], laidTests := true, laidLooks := .later }
def YlinesCutCardSaid : Prop := Claim7.holds Tryd.pinned (.plain (OpenSpec.ofChange ylinesCutSpec)) ylinesCutCard

/-- THE TIED CARD OF 'bosunlaw10.YlinesPads'. -/
def ylinesPadsCard : Claim7 := { stood := { row := ylinesPadsRow, standIns := [], harness := (true, "bf554d9ddf73db1b30aa75274b6ccd0269f5b6f587b986159470f4ae0c38e53e"), looks := false }, kinds := [], alts := [], laidByText := true, laidKinds := [.data, .pinned], laidTests := true, laidLooks := .later }
def YlinesPadsCardSaid : Prop := Claim7.holds Tryd.pinned (.plain (OpenSpec.ofChange ylinesPadsSpec)) ylinesPadsCard

/-- THE SECOND FORM's CARD OF 'bosunlaw10.YlinesCut'. -/
def ylinesCutUptoCard : Claim7 := { stood := { row := ylinesCutUptoRow, standIns := [], harness := (true, "bf554d9ddf73db1b30aa75274b6ccd0269f5b6f587b986159470f4ae0c38e53e"), looks := false }, kinds := [], alts := [], laidByText := true, laidKinds := [.data, .pinned], laidTests := true, laidLooks := .later }
def YlinesCutUptoCardSaid : Prop := Claim7.holds Tryd.pinned (.plain (OpenSpec.upto ylinesCutSpec)) ylinesCutUptoCard

/-- THE SECOND FORM's CARD OF 'bosunlaw10.YlinesPads'. -/
def ylinesPadsUptoCard : Claim7 := { stood := { row := ylinesPadsUptoRow, standIns := [], harness := (true, "bf554d9ddf73db1b30aa75274b6ccd0269f5b6f587b986159470f4ae0c38e53e"), looks := false }, kinds := [], alts := [], laidByText := true, laidKinds := [.data, .pinned], laidTests := true, laidLooks := .later }
def YlinesPadsUptoCardSaid : Prop := Claim7.holds Tryd.pinned (.plain (OpenSpec.upto ylinesPadsSpec)) ylinesPadsUptoCard
end Rows
end Go.Proofs.YticabhjmojcfoaaDoor
