/-
  DERIVED. GIVEN WITH THE SEED: THE CARDS: each row of YtnkkbiabloodaaaDoorRows.lean that lists a variable, with what it lists TIED to the program's text (the seventh form; the later family's looks); each row that meets fmt, with fmt's text TOLD by the authors' own Lean function (tested against real Go, not proved from fmt's source: count such statements apart). THE CARD IS WHAT COUNTS. Prove the row's statement (the work); the ties are given (YtnkkbiabloodaaaDoorTie.lean); close each card by the builder's one call (the guide's Derived/Test/ToyasCard.lean, 'card_holds'). Laid BY PROGRAM, IN A SANDBOX (cutbox-door.mjs). By AI agents, Wed Nov 11 2026. No macro, syntax, notation, axiom, sorry.
-/
import Derived.Test.YtnkkbiabloodaaaDoorRows
import GoSem.ClaimSeven
namespace Go.Proofs.YtnkkbiabloodaaaDoor
namespace Rows

/-- THE TIED CARD OF 'bosunlaw05.ValueGets'. -/
def valueGetsCard : Claim7 := { stood := { row := valueGetsRow, standIns := [], harness := (true, "a687efd23f95e7f29ca45fa30dc6f9f7788e350ede49b9fff2eda109ad652fad"), looks := false }, kinds := [], alts := [], laidByText := true, laidKinds := [.data, .pinned], laidTests := true, laidLooks := .later }
def ValueGetsCardSaid : Prop := Claim7.holds Tryd.pinned (.plain (OpenSpec.ofChange valueGetsSpec)) valueGetsCard

/-- THE TIED CARD OF 'bosunlaw05.ValueChecks'. -/
def valueChecksCard : Claim7 := { stood := { row := valueChecksRow, standIns := [], harness := (true, "a687efd23f95e7f29ca45fa30dc6f9f7788e350ede49b9fff2eda109ad652fad"), looks := false }, kinds := [], alts := [], laidByText := true, laidKinds := [.data, .pinned], laidTests := true, laidLooks := .later }
def ValueChecksCardSaid : Prop := Claim7.holds Tryd.pinned (.plain (OpenSpec.ofChange valueChecksSpec)) valueChecksCard

/-- THE TIED CARD OF 'bosunlaw05.ValueAlike'. -/
def valueAlikeCard : Claim7 := { stood := { row := valueAlikeRow, standIns := [], harness := (true, "a687efd23f95e7f29ca45fa30dc6f9f7788e350ede49b9fff2eda109ad652fad"), looks := false }, kinds := [], alts := [], laidByText := true, laidKinds := [.data, .pinned], laidTests := true, laidLooks := .later }
def ValueAlikeCardSaid : Prop := Claim7.holds Tryd.pinned (.plain (OpenSpec.ofChange valueAlikeSpec)) valueAlikeCard

/-- THE TIED CARD OF 'bosunlaw07.JlexWhole'. -/
def jlexWholeCard : Claim7 := { stood := { row := jlexWholeRow, standIns := [], harness := (true, "a687efd23f95e7f29ca45fa30dc6f9f7788e350ede49b9fff2eda109ad652fad"), looks := false }, kinds := [], alts := [], laidByText := true, laidKinds := [.data, .pinned], laidTests := true, laidLooks := .later }
def JlexWholeCardSaid : Prop := Claim7.holds Tryd.pinned (.plain (OpenSpec.ofChange jlexWholeSpec)) jlexWholeCard

/-- THE TIED CARD OF 'bosunlaw07.JlexAgain'. -/
def jlexAgainCard : Claim7 := { stood := { row := jlexAgainRow, standIns := [], harness := (true, "a687efd23f95e7f29ca45fa30dc6f9f7788e350ede49b9fff2eda109ad652fad"), looks := false }, kinds := [], alts := [], laidByText := true, laidKinds := [.data, .pinned], laidTests := true, laidLooks := .later }
def JlexAgainCardSaid : Prop := Claim7.holds Tryd.pinned (.plain (OpenSpec.ofChange jlexAgainSpec)) jlexAgainCard

/-- THE SECOND FORM's CARD OF 'bosunlaw05.ValueGets'. -/
def valueGetsUptoCard : Claim7 := { stood := { row := valueGetsUptoRow, standIns := [], harness := (true, "a687efd23f95e7f29ca45fa30dc6f9f7788e350ede49b9fff2eda109ad652fad"), looks := false }, kinds := [], alts := [], laidByText := true, laidKinds := [.data, .pinned], laidTests := true, laidLooks := .later }
def ValueGetsUptoCardSaid : Prop := Claim7.holds Tryd.pinned (.plain (OpenSpec.upto valueGetsSpec)) valueGetsUptoCard

/-- THE SECOND FORM's CARD OF 'bosunlaw05.ValueChecks'. -/
def valueChecksUptoCard : Claim7 := { stood := { row := valueChecksUptoRow, standIns := [], harness := (true, "a687efd23f95e7f29ca45fa30dc6f9f7788e350ede49b9fff2eda109ad652fad"), looks := false }, kinds := [], alts := [], laidByText := true, laidKinds := [.data, .pinned], laidTests := true, laidLooks := .later }
def ValueChecksUptoCardSaid : Prop := Claim7.holds Tryd.pinned (.plain (OpenSpec.upto valueChecksSpec)) valueChecksUptoCard

/-- THE SECOND FORM's CARD OF 'bosunlaw05.ValueAlike'. -/
def valueAlikeUptoCard : Claim7 := { stood := { row := valueAlikeUptoRow, standIns := [], harness := (true, "a687efd23f95e7f29ca45fa30dc6f9f7788e350ede49b9fff2eda109ad652fad"), looks := false }, kinds := [], alts := [], laidByText := true, laidKinds := [.data, .pinned], laidTests := true, laidLooks := .later }
def ValueAlikeUptoCardSaid : Prop := Claim7.holds Tryd.pinned (.plain (OpenSpec.upto valueAlikeSpec)) valueAlikeUptoCard

/-- THE SECOND FORM's CARD OF 'bosunlaw07.JlexWhole'. -/
def jlexWholeUptoCard : Claim7 := { stood := { row := jlexWholeUptoRow, standIns := [], harness := (true, "a687efd23f95e7f29ca45fa30dc6f9f7788e350ede49b9fff2eda109ad652fad"), looks := false }, kinds := [], alts := [], laidByText := true, laidKinds := [.data, .pinned], laidTests := true, laidLooks := .later }
def JlexWholeUptoCardSaid : Prop := Claim7.holds Tryd.pinned (.plain (OpenSpec.upto jlexWholeSpec)) jlexWholeUptoCard

/-- THE SECOND FORM's CARD OF 'bosunlaw07.JlexAgain'. -/
def jlexAgainUptoCard : Claim7 := { stood := { row := jlexAgainUptoRow, standIns := [], harness := (true, "a687efd23f95e7f29ca45fa30dc6f9f7788e350ede49b9fff2eda109ad652fad"), looks := false }, kinds := [], alts := [], laidByText := true, laidKinds := [.data, .pinned], laidTests := true, laidLooks := .later }
def JlexAgainUptoCardSaid : Prop := Claim7.holds Tryd.pinned (.plain (OpenSpec.upto jlexAgainSpec)) jlexAgainUptoCard
end Rows
end Go.Proofs.YtnkkbiabloodaaaDoor
