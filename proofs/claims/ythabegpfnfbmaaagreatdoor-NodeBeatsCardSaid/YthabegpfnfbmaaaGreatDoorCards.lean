/-
  DERIVED. GIVEN WITH THE SEED: THE CARDS: each row of YthabegpfnfbmaaaGreatDoorRows.lean that lists a variable, with what it lists TIED to the program's text (the seventh form; the later family's looks); each row that meets fmt, with fmt's text TOLD by the authors' own Lean function (tested against real Go, not proved from fmt's source: count such statements apart). THE CARD IS WHAT COUNTS. Prove the row's statement (the work); the ties are given (YthabegpfnfbmaaaGreatDoorTie.lean); close each card by the builder's one call (the guide's Derived/Test/ToyasCard.lean, 'card_holds'). Laid BY PROGRAM, IN A SANDBOX (cutbox-door.mjs). By AI agents, Wed Nov 11 2026. No macro, syntax, notation, axiom, sorry.
-/
import Derived.Test.YthabegpfnfbmaaaGreatDoorRows
import GoSem.ClaimSeven
namespace Go.Proofs.YthabegpfnfbmaaaGreatDoor
namespace Rows

/-- THE TIED CARD OF 'paternosterlaw22.NodeBeats'. -/
def nodeBeatsCard : Claim7 := { stood := { row := nodeBeatsRow, standIns := [], harness := (true, "0c66d8bcc18dfed50a9672229d63371bc0551918b69acc7be52628e1b74e9cd2"), looks := true }, kinds := [], alts := [], laidByText := true, laidKinds := [.data, .sentinel, .sentinel, .sentinel, .sentinel, .sentinel, .sentinel, .sentinel], laidTests := true, laidLooks := .later }
def NodeBeatsCardSaid : Prop := Claim7.holds Tryz.pinned (.plain (OpenSpec.ofChange nodeBeatsSpec)) nodeBeatsCard

/-- THE TIED CARD OF 'paternosterlaw22.NodeBoots'. -/
def nodeBootsCard : Claim7 := { stood := { row := nodeBootsRow, standIns := [], harness := (true, "0c66d8bcc18dfed50a9672229d63371bc0551918b69acc7be52628e1b74e9cd2"), looks := true }, kinds := [], alts := [], laidByText := true, laidKinds := [.data, .sentinel, .sentinel, .sentinel, .sentinel, .sentinel, .sentinel, .sentinel, .sentinel, .sentinel, .sentinel, .sentinel, .sentinel, .sentinel], laidTests := true, laidLooks := .later }
def NodeBootsCardSaid : Prop := Claim7.holds Tryz.pinned (.plain (OpenSpec.ofChange nodeBootsSpec)) nodeBootsCard

/-- THE TIED CARD OF 'paternosterlaw22.NodeAlone'. -/
def nodeAloneCard : Claim7 := { stood := { row := nodeAloneRow, standIns := [], harness := (true, "0c66d8bcc18dfed50a9672229d63371bc0551918b69acc7be52628e1b74e9cd2"), looks := true }, kinds := [], alts := [], laidByText := true, laidKinds := [.data, .sentinel, .sentinel, .sentinel, .sentinel, .sentinel, .sentinel, .sentinel], laidTests := true, laidLooks := .later }
def NodeAloneCardSaid : Prop := Claim7.holds Tryz.pinned (.plain (OpenSpec.ofChange nodeAloneSpec)) nodeAloneCard

/-- THE TIED CARD OF 'paternosterlaw22.NodeTokens'. -/
def nodeTokensCard : Claim7 := { stood := { row := nodeTokensRow, standIns := [], harness := (true, "0c66d8bcc18dfed50a9672229d63371bc0551918b69acc7be52628e1b74e9cd2"), looks := true }, kinds := [], alts := [], laidByText := true, laidKinds := [.data, .sentinel, .sentinel, .sentinel, .sentinel, .sentinel, .sentinel, .sentinel], laidTests := true, laidLooks := .later }
def NodeTokensCardSaid : Prop := Claim7.holds Tryz.pinned (.plain (OpenSpec.ofChange nodeTokensSpec)) nodeTokensCard

/-- THE TIED CARD OF 'paternosterlaw22.NodePlays'. -/
def nodePlaysCard : Claim7 := { stood := { row := nodePlaysRow, standIns := [], harness := (true, "0c66d8bcc18dfed50a9672229d63371bc0551918b69acc7be52628e1b74e9cd2"), looks := true }, kinds := [], alts := [], laidByText := true, laidKinds := [.data, .sentinel, .sentinel, .sentinel, .sentinel, .sentinel, .sentinel, .sentinel, .sentinel, .sentinel, .sentinel, .sentinel, .sentinel, .sentinel], laidTests := true, laidLooks := .later }
def NodePlaysCardSaid : Prop := Claim7.holds Tryz.pinned (.plain (OpenSpec.ofChange nodePlaysSpec)) nodePlaysCard

/-- THE SECOND FORM's CARD OF 'paternosterlaw22.NodeBeats'. -/
def nodeBeatsUptoCard : Claim7 := { stood := { row := nodeBeatsUptoRow, standIns := [], harness := (true, "0c66d8bcc18dfed50a9672229d63371bc0551918b69acc7be52628e1b74e9cd2"), looks := true }, kinds := [], alts := [], laidByText := true, laidKinds := [.data, .sentinel, .sentinel, .sentinel, .sentinel, .sentinel, .sentinel, .sentinel], laidTests := true, laidLooks := .later }
def NodeBeatsUptoCardSaid : Prop := Claim7.holds Tryz.pinned (.plain (OpenSpec.upto nodeBeatsSpec)) nodeBeatsUptoCard

/-- THE SECOND FORM's CARD OF 'paternosterlaw22.NodeBoots'. -/
def nodeBootsUptoCard : Claim7 := { stood := { row := nodeBootsUptoRow, standIns := [], harness := (true, "0c66d8bcc18dfed50a9672229d63371bc0551918b69acc7be52628e1b74e9cd2"), looks := true }, kinds := [], alts := [], laidByText := true, laidKinds := [.data, .sentinel, .sentinel, .sentinel, .sentinel, .sentinel, .sentinel, .sentinel, .sentinel, .sentinel, .sentinel, .sentinel, .sentinel, .sentinel], laidTests := true, laidLooks := .later }
def NodeBootsUptoCardSaid : Prop := Claim7.holds Tryz.pinned (.plain (OpenSpec.upto nodeBootsSpec)) nodeBootsUptoCard

/-- THE SECOND FORM's CARD OF 'paternosterlaw22.NodeAlone'. -/
def nodeAloneUptoCard : Claim7 := { stood := { row := nodeAloneUptoRow, standIns := [], harness := (true, "0c66d8bcc18dfed50a9672229d63371bc0551918b69acc7be52628e1b74e9cd2"), looks := true }, kinds := [], alts := [], laidByText := true, laidKinds := [.data, .sentinel, .sentinel, .sentinel, .sentinel, .sentinel, .sentinel, .sentinel], laidTests := true, laidLooks := .later }
def NodeAloneUptoCardSaid : Prop := Claim7.holds Tryz.pinned (.plain (OpenSpec.upto nodeAloneSpec)) nodeAloneUptoCard

/-- THE SECOND FORM's CARD OF 'paternosterlaw22.NodeTokens'. -/
def nodeTokensUptoCard : Claim7 := { stood := { row := nodeTokensUptoRow, standIns := [], harness := (true, "0c66d8bcc18dfed50a9672229d63371bc0551918b69acc7be52628e1b74e9cd2"), looks := true }, kinds := [], alts := [], laidByText := true, laidKinds := [.data, .sentinel, .sentinel, .sentinel, .sentinel, .sentinel, .sentinel, .sentinel], laidTests := true, laidLooks := .later }
def NodeTokensUptoCardSaid : Prop := Claim7.holds Tryz.pinned (.plain (OpenSpec.upto nodeTokensSpec)) nodeTokensUptoCard

/-- THE SECOND FORM's CARD OF 'paternosterlaw22.NodePlays'. -/
def nodePlaysUptoCard : Claim7 := { stood := { row := nodePlaysUptoRow, standIns := [], harness := (true, "0c66d8bcc18dfed50a9672229d63371bc0551918b69acc7be52628e1b74e9cd2"), looks := true }, kinds := [], alts := [], laidByText := true, laidKinds := [.data, .sentinel, .sentinel, .sentinel, .sentinel, .sentinel, .sentinel, .sentinel, .sentinel, .sentinel, .sentinel, .sentinel, .sentinel, .sentinel], laidTests := true, laidLooks := .later }
def NodePlaysUptoCardSaid : Prop := Claim7.holds Tryz.pinned (.plain (OpenSpec.upto nodePlaysSpec)) nodePlaysUptoCard
end Rows
end Go.Proofs.YthabegpfnfbmaaaGreatDoor
