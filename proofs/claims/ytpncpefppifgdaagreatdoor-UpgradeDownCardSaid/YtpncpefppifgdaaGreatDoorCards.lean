/-
  DERIVED. GIVEN WITH THE SEED: THE CARDS: each row of YtpncpefppifgdaaGreatDoorRows.lean that lists a variable, with what it lists TIED to the program's text (the seventh form; the later family's looks); each row that meets fmt, with fmt's text TOLD by the authors' own Lean function (tested against real Go, not proved from fmt's source: count such statements apart). THE CARD IS WHAT COUNTS. Prove the row's statement (the work); the ties are given (YtpncpefppifgdaaGreatDoorTie.lean); close each card by the builder's one call (the guide's Derived/Test/ToyasCard.lean, 'card_holds'). Laid BY PROGRAM, IN A SANDBOX (cutbox-door.mjs). By AI agents, Wed Nov 11 2026. No macro, syntax, notation, axiom, sorry.
-/
import Derived.Test.YtpncpefppifgdaaGreatDoorRows
import GoSem.ClaimSeven
namespace Go.Proofs.YtpncpefppifgdaaGreatDoor
namespace Rows

/-- THE TIED CARD OF 'bosunlaw20.UpgradeMakes'. -/
def upgradeMakesCard : Claim7 := { stood := { row := upgradeMakesRow, standIns := [], harness := (true, "19de814a2885360a6cd65101c51992cdd9bc1230b25c7bf4f976097474ea2416"), looks := false }, kinds := [], alts := [], laidByText := true, laidKinds := [.data, .pinned], laidTests := true, laidLooks := .later }
def UpgradeMakesCardSaid : Prop := Claim7.holds Tryz.pinned (.plain (OpenSpec.ofChange upgradeMakesSpec)) upgradeMakesCard

/-- THE TIED CARD OF 'bosunlaw20.UpgradeDown'. -/
def upgradeDownCard : Claim7 := { stood := { row := upgradeDownRow, standIns := [], harness := (true, "19de814a2885360a6cd65101c51992cdd9bc1230b25c7bf4f976097474ea2416"), looks := false }, kinds := [], alts := [], laidByText := true, laidKinds := [.data, .pinned], laidTests := true, laidLooks := .later }
def UpgradeDownCardSaid : Prop := Claim7.holds Tryz.pinned (.plain (OpenSpec.ofChange upgradeDownSpec)) upgradeDownCard

/-- THE TIED CARD OF 'bosunlaw20.UpgradeKeeps'. -/
def upgradeKeepsCard : Claim7 := { stood := { row := upgradeKeepsRow, standIns := [], harness := (true, "19de814a2885360a6cd65101c51992cdd9bc1230b25c7bf4f976097474ea2416"), looks := false }, kinds := [], alts := [], laidByText := true, laidKinds := [.data, .pinned], laidTests := true, laidLooks := .later }
def UpgradeKeepsCardSaid : Prop := Claim7.holds Tryz.pinned (.plain (OpenSpec.ofChange upgradeKeepsSpec)) upgradeKeepsCard

/-- THE SECOND FORM's CARD OF 'bosunlaw20.UpgradeMakes'. -/
def upgradeMakesUptoCard : Claim7 := { stood := { row := upgradeMakesUptoRow, standIns := [], harness := (true, "19de814a2885360a6cd65101c51992cdd9bc1230b25c7bf4f976097474ea2416"), looks := false }, kinds := [], alts := [], laidByText := true, laidKinds := [.data, .pinned], laidTests := true, laidLooks := .later }
def UpgradeMakesUptoCardSaid : Prop := Claim7.holds Tryz.pinned (.plain (OpenSpec.upto upgradeMakesSpec)) upgradeMakesUptoCard

/-- THE SECOND FORM's CARD OF 'bosunlaw20.UpgradeDown'. -/
def upgradeDownUptoCard : Claim7 := { stood := { row := upgradeDownUptoRow, standIns := [], harness := (true, "19de814a2885360a6cd65101c51992cdd9bc1230b25c7bf4f976097474ea2416"), looks := false }, kinds := [], alts := [], laidByText := true, laidKinds := [.data, .pinned], laidTests := true, laidLooks := .later }
def UpgradeDownUptoCardSaid : Prop := Claim7.holds Tryz.pinned (.plain (OpenSpec.upto upgradeDownSpec)) upgradeDownUptoCard

/-- THE SECOND FORM's CARD OF 'bosunlaw20.UpgradeKeeps'. -/
def upgradeKeepsUptoCard : Claim7 := { stood := { row := upgradeKeepsUptoRow, standIns := [], harness := (true, "19de814a2885360a6cd65101c51992cdd9bc1230b25c7bf4f976097474ea2416"), looks := false }, kinds := [], alts := [], laidByText := true, laidKinds := [.data, .pinned], laidTests := true, laidLooks := .later }
def UpgradeKeepsUptoCardSaid : Prop := Claim7.holds Tryz.pinned (.plain (OpenSpec.upto upgradeKeepsSpec)) upgradeKeepsUptoCard
end Rows
end Go.Proofs.YtpncpefppifgdaaGreatDoor
