/-
  DERIVED. GIVEN WITH THE SEED: THE CARDS: each row of YtihahfhagobnoaaGreatDoorRows.lean that lists a variable, with what it lists TIED to the program's text (the seventh form; the later family's looks); each row that meets fmt, with fmt's text TOLD by the authors' own Lean function (tested against real Go, not proved from fmt's source: count such statements apart). THE CARD IS WHAT COUNTS. Prove the row's statement (the work); the ties are given (YtihahfhagobnoaaGreatDoorTie.lean); close each card by the builder's one call (the guide's Derived/Test/ToyasCard.lean, 'card_holds'). Laid BY PROGRAM, IN A SANDBOX (cutbox-door.mjs). By AI agents, Wed Nov 11 2026. No macro, syntax, notation, axiom, sorry.
-/
import Derived.Test.YtihahfhagobnoaaGreatDoorRows
import GoSem.ClaimSeven
namespace Go.Proofs.YtihahfhagobnoaaGreatDoor
namespace Rows

/-- THE TIED CARD OF 'groynelaw19.SidecarStale'. -/
def sidecarStaleCard : Claim7 := { stood := { row := sidecarStaleRow, standIns := [], harness := (true, "b4e1545fb270a6b8921598482f0c4557092e86b9d7288390364c0f76ef254b9c"), looks := true }, kinds := [], alts := [], laidByText := true, laidKinds := [.data, .pinned], laidTests := true, laidLooks := .later }
def SidecarStaleCardSaid : Prop := Claim7.holds Tryz.pinned (.plain (OpenSpec.ofChange sidecarStaleSpec)) sidecarStaleCard

/-- THE TIED CARD OF 'groynelaw19.SidecarAgain'. -/
def sidecarAgainCard : Claim7 := { stood := { row := sidecarAgainRow, standIns := [], harness := (true, "b4e1545fb270a6b8921598482f0c4557092e86b9d7288390364c0f76ef254b9c"), looks := true }, kinds := [], alts := [], laidByText := true, laidKinds := [.data, .pinned], laidTests := true, laidLooks := .later }
def SidecarAgainCardSaid : Prop := Claim7.holds Tryz.pinned (.plain (OpenSpec.ofChange sidecarAgainSpec)) sidecarAgainCard

/-- THE TIED CARD OF 'groynelaw19.SidecarStays'. -/
def sidecarStaysCard : Claim7 := { stood := { row := sidecarStaysRow, standIns := [], harness := (true, "b4e1545fb270a6b8921598482f0c4557092e86b9d7288390364c0f76ef254b9c"), looks := true }, kinds := [], alts := [], laidByText := true, laidKinds := [.data, .pinned], laidTests := true, laidLooks := .later }
def SidecarStaysCardSaid : Prop := Claim7.holds Tryz.pinned (.plain (OpenSpec.ofChange sidecarStaysSpec)) sidecarStaysCard

/-- THE TIED CARD OF 'groynelaw19.SidecarShows'. -/
def sidecarShowsCard : Claim7 := { stood := { row := sidecarShowsRow, standIns := [], harness := (true, "b4e1545fb270a6b8921598482f0c4557092e86b9d7288390364c0f76ef254b9c"), looks := true }, kinds := [], alts := [], laidByText := true, laidKinds := [.data, .pinned], laidTests := true, laidLooks := .later }
def SidecarShowsCardSaid : Prop := Claim7.holds Tryz.pinned (.plain (OpenSpec.ofChange sidecarShowsSpec)) sidecarShowsCard

/-- THE SECOND FORM's CARD OF 'groynelaw19.SidecarStale'. -/
def sidecarStaleUptoCard : Claim7 := { stood := { row := sidecarStaleUptoRow, standIns := [], harness := (true, "b4e1545fb270a6b8921598482f0c4557092e86b9d7288390364c0f76ef254b9c"), looks := true }, kinds := [], alts := [], laidByText := true, laidKinds := [.data, .pinned], laidTests := true, laidLooks := .later }
def SidecarStaleUptoCardSaid : Prop := Claim7.holds Tryz.pinned (.plain (OpenSpec.upto sidecarStaleSpec)) sidecarStaleUptoCard

/-- THE SECOND FORM's CARD OF 'groynelaw19.SidecarAgain'. -/
def sidecarAgainUptoCard : Claim7 := { stood := { row := sidecarAgainUptoRow, standIns := [], harness := (true, "b4e1545fb270a6b8921598482f0c4557092e86b9d7288390364c0f76ef254b9c"), looks := true }, kinds := [], alts := [], laidByText := true, laidKinds := [.data, .pinned], laidTests := true, laidLooks := .later }
def SidecarAgainUptoCardSaid : Prop := Claim7.holds Tryz.pinned (.plain (OpenSpec.upto sidecarAgainSpec)) sidecarAgainUptoCard

/-- THE SECOND FORM's CARD OF 'groynelaw19.SidecarStays'. -/
def sidecarStaysUptoCard : Claim7 := { stood := { row := sidecarStaysUptoRow, standIns := [], harness := (true, "b4e1545fb270a6b8921598482f0c4557092e86b9d7288390364c0f76ef254b9c"), looks := true }, kinds := [], alts := [], laidByText := true, laidKinds := [.data, .pinned], laidTests := true, laidLooks := .later }
def SidecarStaysUptoCardSaid : Prop := Claim7.holds Tryz.pinned (.plain (OpenSpec.upto sidecarStaysSpec)) sidecarStaysUptoCard

/-- THE SECOND FORM's CARD OF 'groynelaw19.SidecarShows'. -/
def sidecarShowsUptoCard : Claim7 := { stood := { row := sidecarShowsUptoRow, standIns := [], harness := (true, "b4e1545fb270a6b8921598482f0c4557092e86b9d7288390364c0f76ef254b9c"), looks := true }, kinds := [], alts := [], laidByText := true, laidKinds := [.data, .pinned], laidTests := true, laidLooks := .later }
def SidecarShowsUptoCardSaid : Prop := Claim7.holds Tryz.pinned (.plain (OpenSpec.upto sidecarShowsSpec)) sidecarShowsUptoCard
end Rows
end Go.Proofs.YtihahfhagobnoaaGreatDoor
