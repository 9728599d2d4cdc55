/-
  DERIVED. GIVEN WITH THE SEED: THE CARDS: each row of YtpflenjhmeaeoaaDoorRows.lean that lists a variable, with what it lists TIED to the program's text (the seventh form; the later family's looks); each row that meets fmt, with fmt's text TOLD by the authors' own Lean function (tested against real Go, not proved from fmt's source: count such statements apart). THE CARD IS WHAT COUNTS. Prove the row's statement (the work); the ties are given (YtpflenjhmeaeoaaDoorTie.lean); close each card by the builder's one call (the guide's Derived/Test/ToyasCard.lean, 'card_holds'). Laid BY PROGRAM, IN A SANDBOX (cutbox-door.mjs). By AI agents, Wed Nov 11 2026. No macro, syntax, notation, axiom, sorry.
-/
import Derived.Test.YtpflenjhmeaeoaaDoorRows
import GoSem.ClaimSeven
namespace Go.Proofs.YtpflenjhmeaeoaaDoor
namespace Rows

/-- THE TIED CARD OF 'bosunlaw14.SpecChecks'. -/
def specChecksCard : Claim7 := { stood := { row := specChecksRow, standIns := [], harness := (true, "b48eb7b461e5238a1be361b28964133d2c583dab3217034d8cfd2121f77d9b8b"), looks := false }, kinds := [], alts := [], laidByText := true, laidKinds := [.data, .pinned], laidTests := true, laidLooks := .later }
def SpecChecksCardSaid : Prop := Claim7.holds Tryd.pinned (.plain (OpenSpec.ofChange specChecksSpec)) specChecksCard

/-- THE TIED CARD OF 'bosunlaw14.SpecDefaults'. -/
def specDefaultsCard : Claim7 := { stood := { row := specDefaultsRow, standIns := [], harness := (true, "b48eb7b461e5238a1be361b28964133d2c583dab3217034d8cfd2121f77d9b8b"), looks := false }, kinds := [], alts := [], laidByText := true, laidKinds := [.data, .pinned], laidTests := true, laidLooks := .later }
def SpecDefaultsCardSaid : Prop := Claim7.holds Tryd.pinned (.plain (OpenSpec.ofChange specDefaultsSpec)) specDefaultsCard

/-- THE TIED CARD OF 'bosunlaw14.SpecWords'. -/
def specWordsCard : Claim7 := { stood := { row := specWordsRow, standIns := [], harness := (true, "b48eb7b461e5238a1be361b28964133d2c583dab3217034d8cfd2121f77d9b8b"), looks := false }, kinds := [], alts := [], laidByText := true, laidKinds := [.data, .pinned], laidTests := true, laidLooks := .later }
def SpecWordsCardSaid : Prop := Claim7.holds Tryd.pinned (.plain (OpenSpec.ofChange specWordsSpec)) specWordsCard

/-- THE TIED CARD OF 'bosunlaw23.DiffTurns'. -/
def diffTurnsCard : Claim7 := { stood := { row := diffTurnsRow, standIns := [], harness := (true, "b48eb7b461e5238a1be361b28964133d2c583dab3217034d8cfd2121f77d9b8b"), looks := false }, kinds := [], alts := [], laidByText := true, laidKinds := [.data, .pinned], laidTests := true, laidLooks := .later }
def DiffTurnsCardSaid : Prop := Claim7.holds Tryd.pinned (.plain (OpenSpec.ofChange diffTurnsSpec)) diffTurnsCard

/-- THE SECOND FORM's CARD OF 'bosunlaw14.SpecChecks'. -/
def specChecksUptoCard : Claim7 := { stood := { row := specChecksUptoRow, standIns := [], harness := (true, "b48eb7b461e5238a1be361b28964133d2c583dab3217034d8cfd2121f77d9b8b"), looks := false }, kinds := [], alts := [], laidByText := true, laidKinds := [.data, .pinned], laidTests := true, laidLooks := .later }
def SpecChecksUptoCardSaid : Prop := Claim7.holds Tryd.pinned (.plain (OpenSpec.upto specChecksSpec)) specChecksUptoCard

/-- THE SECOND FORM's CARD OF 'bosunlaw14.SpecDefaults'. -/
def specDefaultsUptoCard : Claim7 := { stood := { row := specDefaultsUptoRow, standIns := [], harness := (true, "b48eb7b461e5238a1be361b28964133d2c583dab3217034d8cfd2121f77d9b8b"), looks := false }, kinds := [], alts := [], laidByText := true, laidKinds := [.data, .pinned], laidTests := true, laidLooks := .later }
def SpecDefaultsUptoCardSaid : Prop := Claim7.holds Tryd.pinned (.plain (OpenSpec.upto specDefaultsSpec)) specDefaultsUptoCard

/-- THE SECOND FORM's CARD OF 'bosunlaw14.SpecWords'. -/
def specWordsUptoCard : Claim7 := { stood := { row := specWordsUptoRow, standIns := [], harness := (true, "b48eb7b461e5238a1be361b28964133d2c583dab3217034d8cfd2121f77d9b8b"), looks := false }, kinds := [], alts := [], laidByText := true, laidKinds := [.data, .pinned], laidTests := true, laidLooks := .later }
def SpecWordsUptoCardSaid : Prop := Claim7.holds Tryd.pinned (.plain (OpenSpec.upto specWordsSpec)) specWordsUptoCard

/-- THE SECOND FORM's CARD OF 'bosunlaw23.DiffTurns'. -/
def diffTurnsUptoCard : Claim7 := { stood := { row := diffTurnsUptoRow, standIns := [], harness := (true, "b48eb7b461e5238a1be361b28964133d2c583dab3217034d8cfd2121f77d9b8b"), looks := false }, kinds := [], alts := [], laidByText := true, laidKinds := [.data, .pinned], laidTests := true, laidLooks := .later }
def DiffTurnsUptoCardSaid : Prop := Claim7.holds Tryd.pinned (.plain (OpenSpec.upto diffTurnsSpec)) diffTurnsUptoCard
end Rows
end Go.Proofs.YtpflenjhmeaeoaaDoor
