/-
  DERIVED. GIVEN WITH THE SEED: THE CARDS: each row of YtpmbdcljphpcnaaDoorRows.lean that lists a variable, with what it lists TIED to the program's text (the seventh form; the later family's looks); each row that meets fmt, with fmt's text TOLD by the authors' own Lean function (tested against real Go, not proved from fmt's source: count such statements apart). THE CARD IS WHAT COUNTS. Prove the row's statement (the work); the ties are given (YtpmbdcljphpcnaaDoorTie.lean); close each card by the builder's one call (the guide's Derived/Test/ToyasCard.lean, 'card_holds'). Laid BY PROGRAM, IN A SANDBOX (cutbox-door.mjs). By AI agents, Wed Nov 11 2026. No macro, syntax, notation, axiom, sorry.
-/
import Derived.Test.YtpmbdcljphpcnaaDoorRows
import GoSem.ClaimSeven
namespace Go.Proofs.YtpmbdcljphpcnaaDoor
namespace Rows

/-- THE TIED CARD OF 'bosunlaw17.CkoneCodes'. -/
def ckoneCodesCard : Claim7 := { stood := { row := ckoneCodesRow, standIns := [], harness := (true, "2fa69f2e3dc3b583daa077e1d7c0f6dcfeec448056021cd21a6ca103fc0227b4"), looks := false }, kinds := [], alts := [], laidByText := true, laidKinds := [.data, .pinned], laidTests := true, laidLooks := .later }
def CkoneCodesCardSaid : Prop := Claim7.holds Tryd.pinned (.plain (OpenSpec.ofChange ckoneCodesSpec)) ckoneCodesCard

/-- THE TIED CARD OF 'bosunlaw17.CkoneReads'. -/
def ckoneReadsCard : Claim7 := { stood := { row := ckoneReadsRow, standIns := [], harness := (true, "2fa69f2e3dc3b583daa077e1d7c0f6dcfeec448056021cd21a6ca103fc0227b4"), looks := false }, kinds := [], alts := [], laidByText := true, laidKinds := [.data, .pinned], laidTests := true, laidLooks := .later }
def CkoneReadsCardSaid : Prop := Claim7.holds Tryd.pinned (.plain (OpenSpec.ofChange ckoneReadsSpec)) ckoneReadsCard

/-- THE TIED CARD OF 'bosunlaw17.CkoneBack'. -/
def ckoneBackCard : Claim7 := { stood := { row := ckoneBackRow, standIns := [], harness := (true, "2fa69f2e3dc3b583daa077e1d7c0f6dcfeec448056021cd21a6ca103fc0227b4"), looks := false }, kinds := [], alts := [], laidByText := true, laidKinds := [.data, .pinned], laidTests := true, laidLooks := .later }
def CkoneBackCardSaid : Prop := Claim7.holds Tryd.pinned (.plain (OpenSpec.ofChange ckoneBackSpec)) ckoneBackCard

/-- THE TIED CARD OF 'bosunlaw18.CktwoCodes'. -/
def cktwoCodesCard : Claim7 := { stood := { row := cktwoCodesRow, standIns := [], harness := (true, "2fa69f2e3dc3b583daa077e1d7c0f6dcfeec448056021cd21a6ca103fc0227b4"), looks := false }, kinds := [], alts := [], laidByText := true, laidKinds := [.data, .pinned], laidTests := true, laidLooks := .later }
def CktwoCodesCardSaid : Prop := Claim7.holds Tryd.pinned (.plain (OpenSpec.ofChange cktwoCodesSpec)) cktwoCodesCard

/-- THE TIED CARD OF 'bosunlaw18.CktwoReads'. -/
def cktwoReadsCard : Claim7 := { stood := { row := cktwoReadsRow, standIns := [], harness := (true, "2fa69f2e3dc3b583daa077e1d7c0f6dcfeec448056021cd21a6ca103fc0227b4"), looks := false }, kinds := [], alts := [], laidByText := true, laidKinds := [.data, .pinned], laidTests := true, laidLooks := .later }
def CktwoReadsCardSaid : Prop := Claim7.holds Tryd.pinned (.plain (OpenSpec.ofChange cktwoReadsSpec)) cktwoReadsCard

/-- THE TIED CARD OF 'bosunlaw18.CktwoBack'. -/
def cktwoBackCard : Claim7 := { stood := { row := cktwoBackRow, standIns := [], harness := (true, "2fa69f2e3dc3b583daa077e1d7c0f6dcfeec448056021cd21a6ca103fc0227b4"), looks := false }, kinds := [], alts := [], laidByText := true, laidKinds := [.data, .pinned], laidTests := true, laidLooks := .later }
def CktwoBackCardSaid : Prop := Claim7.holds Tryd.pinned (.plain (OpenSpec.ofChange cktwoBackSpec)) cktwoBackCard

/-- THE SECOND FORM's CARD OF 'bosunlaw17.CkoneCodes'. -/
def ckoneCodesUptoCard : Claim7 := { stood := { row := ckoneCodesUptoRow, standIns := [], harness := (true, "2fa69f2e3dc3b583daa077e1d7c0f6dcfeec448056021cd21a6ca103fc0227b4"), looks := false }, kinds := [], alts := [], laidByText := true, laidKinds := [.data, .pinned], laidTests := true, laidLooks := .later }
def CkoneCodesUptoCardSaid : Prop := Claim7.holds Tryd.pinned (.plain (OpenSpec.upto ckoneCodesSpec)) ckoneCodesUptoCard

/-- THE SECOND FORM's CARD OF 'bosunlaw17.CkoneReads'. -/
def ckoneReadsUptoCard : Claim7 := { stood := { row := ckoneReadsUptoRow, standIns := [], harness := (true, "2fa69f2e3dc3b583daa077e1d7c0f6dcfeec448056021cd21a6ca103fc0227b4"), looks := false }, kinds := [], alts := [], laidByText := true, laidKinds := [.data, .pinned], laidTests := true, laidLooks := .later }
def CkoneReadsUptoCardSaid : Prop := Claim7.holds Tryd.pinned (.plain (OpenSpec.upto ckoneReadsSpec)) ckoneReadsUptoCard

/-- THE SECOND FORM's CARD OF 'bosunlaw17.CkoneBack'. -/
def ckoneBackUptoCard : Claim7 := { stood := { row := ckoneBackUptoRow, standIns := [], harness := (true, "2fa69f2e3dc3b583daa077e1d7c0f6dcfeec448056021cd21a6ca103fc0227b4"), looks := false }, kinds := [], alts := [], laidByText := true, laidKinds := [.data, .pinned], laidTests := true, laidLooks := .later }
def CkoneBackUptoCardSaid : Prop := Claim7.holds Tryd.pinned (.plain (OpenSpec.upto ckoneBackSpec)) ckoneBackUptoCard

/-- THE SECOND FORM's CARD OF 'bosunlaw18.CktwoCodes'. -/
def cktwoCodesUptoCard : Claim7 := { stood := { row := cktwoCodesUptoRow, standIns := [], harness := (true, "2fa69f2e3dc3b583daa077e1d7c0f6dcfeec448056021cd21a6ca103fc0227b4"), looks := false }, kinds := [], alts := [], laidByText := true, laidKinds := [.data, .pinned], laidTests := true, laidLooks := .later }
def CktwoCodesUptoCardSaid : Prop := Claim7.holds Tryd.pinned (.plain (OpenSpec.upto cktwoCodesSpec)) cktwoCodesUptoCard

/-- THE SECOND FORM's CARD OF 'bosunlaw18.CktwoReads'. -/
def cktwoReadsUptoCard : Claim7 := { stood := { row := cktwoReadsUptoRow, standIns := [], harness := (true, "2fa69f2e3dc3b583daa077e1d7c0f6dcfeec448056021cd21a6ca103fc0227b4"), looks := false }, kinds := [], alts := [], laidByText := true, laidKinds := [.data, .pinned], laidTests := true, laidLooks := .later }
def CktwoReadsUptoCardSaid : Prop := Claim7.holds Tryd.pinned (.plain (OpenSpec.upto cktwoReadsSpec)) cktwoReadsUptoCard

/-- THE SECOND FORM's CARD OF 'bosunlaw18.CktwoBack'. -/
def cktwoBackUptoCard : Claim7 := { stood := { row := cktwoBackUptoRow, standIns := [], harness := (true, "2fa69f2e3dc3b583daa077e1d7c0f6dcfeec448056021cd21a6ca103fc0227b4"), looks := false }, kinds := [], alts := [], laidByText := true, laidKinds := [.data, .pinned], laidTests := true, laidLooks := .later }
def CktwoBackUptoCardSaid : Prop := Claim7.holds Tryd.pinned (.plain (OpenSpec.upto cktwoBackSpec)) cktwoBackUptoCard
end Rows
end Go.Proofs.YtpmbdcljphpcnaaDoor
