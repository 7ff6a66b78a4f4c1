/-
  DERIVED. GIVEN WITH THE SEED: THE CARDS: each row of YtbmdbkgjgjggiaaGreatDoorRows.lean that lists a variable, with what it lists TIED to the program's text (the seventh form; the later family's looks); each row that meets fmt, with fmt's text TOLD by the authors' own Lean function (tested against real Go, not proved from fmt's source: count such statements apart). THE CARD IS WHAT COUNTS. Prove the row's statement (the work); the ties are given (YtbmdbkgjgjggiaaGreatDoorTie.lean); close each card by the builder's one call (the guide's Derived/Test/ToyasCard.lean, 'card_holds'). Laid BY PROGRAM, IN A SANDBOX (cutbox-door.mjs). By AI agents, Wed Nov 11 2026. No macro, syntax, notation, axiom, sorry.
-/
import Derived.Test.YtbmdbkgjgjggiaaGreatDoorRows
import GoSem.ClaimSeven
namespace Go.Proofs.YtbmdbkgjgjggiaaGreatDoor
namespace Rows

/-- THE TIED CARD OF 'groynelaw03.ResIs'. -/
def resIsCard : Claim7 := { stood := { row := resIsRow, standIns := [], harness := (true, "f263278becd9f98980b229009dfefcbfecaff25db7f6e4e9e526c3427e7327db"), looks := false }, kinds := [], alts := [], laidByText := true, laidKinds := [.data, .pinned], laidTests := true, laidLooks := .later }
def ResIsCardSaid : Prop := Claim7.holds Tryz.pinned (.plain (OpenSpec.ofChange resIsSpec)) resIsCard

/-- THE TIED CARD OF 'groynelaw06.RefsAre'. -/
def refsAreCard : Claim7 := { stood := { row := refsAreRow, standIns := [], harness := (true, "f263278becd9f98980b229009dfefcbfecaff25db7f6e4e9e526c3427e7327db"), looks := false }, kinds := [], alts := [], laidByText := true, laidKinds := [.data, .pinned], laidTests := true, laidLooks := .later }
def RefsAreCardSaid : Prop := Claim7.holds Tryz.pinned (.plain (OpenSpec.ofChange refsAreSpec)) refsAreCard

/-- THE TIED CARD OF 'groynelaw06.RefsOrder'. -/
def refsOrderCard : Claim7 := { stood := { row := refsOrderRow, standIns := [], harness := (true, "f263278becd9f98980b229009dfefcbfecaff25db7f6e4e9e526c3427e7327db"), looks := false }, kinds := [], alts := [], laidByText := true, laidKinds := [.data, .pinned], laidTests := true, laidLooks := .later }
def RefsOrderCardSaid : Prop := Claim7.holds Tryz.pinned (.plain (OpenSpec.ofChange refsOrderSpec)) refsOrderCard

/-- THE TIED CARD OF 'groynelaw06.RefsReach'. -/
def refsReachCard : Claim7 := { stood := { row := refsReachRow, standIns := [], harness := (true, "f263278becd9f98980b229009dfefcbfecaff25db7f6e4e9e526c3427e7327db"), looks := false }, kinds := [], alts := [], laidByText := true, laidKinds := [.data, .pinned], laidTests := true, laidLooks := .later }
def RefsReachCardSaid : Prop := Claim7.holds Tryz.pinned (.plain (OpenSpec.ofChange refsReachSpec)) refsReachCard

/-- THE TIED CARD OF 'groynelaw06.RefsTaken'. -/
def refsTakenCard : Claim7 := { stood := { row := refsTakenRow, standIns := [], harness := (true, "f263278becd9f98980b229009dfefcbfecaff25db7f6e4e9e526c3427e7327db"), looks := false }, kinds := [], alts := [], laidByText := true, laidKinds := [.data, .pinned], laidTests := true, laidLooks := .later }
def RefsTakenCardSaid : Prop := Claim7.holds Tryz.pinned (.plain (OpenSpec.ofChange refsTakenSpec)) refsTakenCard

/-- THE TIED CARD OF 'groynelaw06.RefsMissing'. -/
def refsMissingCard : Claim7 := { stood := { row := refsMissingRow, standIns := [], harness := (true, "f263278becd9f98980b229009dfefcbfecaff25db7f6e4e9e526c3427e7327db"), looks := false }, kinds := [], alts := [], laidByText := true, laidKinds := [.data, .pinned], laidTests := true, laidLooks := .later }
def RefsMissingCardSaid : Prop := Claim7.holds Tryz.pinned (.plain (OpenSpec.ofChange refsMissingSpec)) refsMissingCard

/-- THE TIED CARD OF 'groynelaw06.RefsLines'. -/
def refsLinesCard : Claim7 := { stood := { row := refsLinesRow, standIns := [], harness := (true, "f263278becd9f98980b229009dfefcbfecaff25db7f6e4e9e526c3427e7327db"), looks := false }, kinds := [], alts := [], laidByText := true, laidKinds := [.data, .pinned], laidTests := true, laidLooks := .later }
def RefsLinesCardSaid : Prop := Claim7.holds Tryz.pinned (.plain (OpenSpec.ofChange refsLinesSpec)) refsLinesCard

/-- THE SECOND FORM's CARD OF 'groynelaw03.ResIs'. -/
def resIsUptoCard : Claim7 := { stood := { row := resIsUptoRow, standIns := [], harness := (true, "f263278becd9f98980b229009dfefcbfecaff25db7f6e4e9e526c3427e7327db"), looks := false }, kinds := [], alts := [], laidByText := true, laidKinds := [.data, .pinned], laidTests := true, laidLooks := .later }
def ResIsUptoCardSaid : Prop := Claim7.holds Tryz.pinned (.plain (OpenSpec.upto resIsSpec)) resIsUptoCard

/-- THE SECOND FORM's CARD OF 'groynelaw06.RefsAre'. -/
def refsAreUptoCard : Claim7 := { stood := { row := refsAreUptoRow, standIns := [], harness := (true, "f263278becd9f98980b229009dfefcbfecaff25db7f6e4e9e526c3427e7327db"), looks := false }, kinds := [], alts := [], laidByText := true, laidKinds := [.data, .pinned], laidTests := true, laidLooks := .later }
def RefsAreUptoCardSaid : Prop := Claim7.holds Tryz.pinned (.plain (OpenSpec.upto refsAreSpec)) refsAreUptoCard

/-- THE SECOND FORM's CARD OF 'groynelaw06.RefsOrder'. -/
def refsOrderUptoCard : Claim7 := { stood := { row := refsOrderUptoRow, standIns := [], harness := (true, "f263278becd9f98980b229009dfefcbfecaff25db7f6e4e9e526c3427e7327db"), looks := false }, kinds := [], alts := [], laidByText := true, laidKinds := [.data, .pinned], laidTests := true, laidLooks := .later }
def RefsOrderUptoCardSaid : Prop := Claim7.holds Tryz.pinned (.plain (OpenSpec.upto refsOrderSpec)) refsOrderUptoCard

/-- THE SECOND FORM's CARD OF 'groynelaw06.RefsReach'. -/
def refsReachUptoCard : Claim7 := { stood := { row := refsReachUptoRow, standIns := [], harness := (true, "f263278becd9f98980b229009dfefcbfecaff25db7f6e4e9e526c3427e7327db"), looks := false }, kinds := [], alts := [], laidByText := true, laidKinds := [.data, .pinned], laidTests := true, laidLooks := .later }
def RefsReachUptoCardSaid : Prop := Claim7.holds Tryz.pinned (.plain (OpenSpec.upto refsReachSpec)) refsReachUptoCard

/-- THE SECOND FORM's CARD OF 'groynelaw06.RefsTaken'. -/
def refsTakenUptoCard : Claim7 := { stood := { row := refsTakenUptoRow, standIns := [], harness := (true, "f263278becd9f98980b229009dfefcbfecaff25db7f6e4e9e526c3427e7327db"), looks := false }, kinds := [], alts := [], laidByText := true, laidKinds := [.data, .pinned], laidTests := true, laidLooks := .later }
def RefsTakenUptoCardSaid : Prop := Claim7.holds Tryz.pinned (.plain (OpenSpec.upto refsTakenSpec)) refsTakenUptoCard

/-- THE SECOND FORM's CARD OF 'groynelaw06.RefsMissing'. -/
def refsMissingUptoCard : Claim7 := { stood := { row := refsMissingUptoRow, standIns := [], harness := (true, "f263278becd9f98980b229009dfefcbfecaff25db7f6e4e9e526c3427e7327db"), looks := false }, kinds := [], alts := [], laidByText := true, laidKinds := [.data, .pinned], laidTests := true, laidLooks := .later }
def RefsMissingUptoCardSaid : Prop := Claim7.holds Tryz.pinned (.plain (OpenSpec.upto refsMissingSpec)) refsMissingUptoCard

/-- THE SECOND FORM's CARD OF 'groynelaw06.RefsLines'. -/
def refsLinesUptoCard : Claim7 := { stood := { row := refsLinesUptoRow, standIns := [], harness := (true, "f263278becd9f98980b229009dfefcbfecaff25db7f6e4e9e526c3427e7327db"), looks := false }, kinds := [], alts := [], laidByText := true, laidKinds := [.data, .pinned], laidTests := true, laidLooks := .later }
def RefsLinesUptoCardSaid : Prop := Claim7.holds Tryz.pinned (.plain (OpenSpec.upto refsLinesSpec)) refsLinesUptoCard
end Rows
end Go.Proofs.YtbmdbkgjgjggiaaGreatDoor
