/-
  DERIVED. GIVEN WITH THE SEED: THE CARDS: each row of YthjalhfmpffbjaaGreatDoorRows.lean that lists a variable, with what it lists TIED to the program's text (the seventh form; the later family's looks); each row that meets fmt, with fmt's text TOLD by the authors' own Lean function (tested against real Go, not proved from fmt's source: count such statements apart). THE CARD IS WHAT COUNTS. Prove the row's statement (the work); the ties are given (YthjalhfmpffbjaaGreatDoorTie.lean); close each card by the builder's one call (the guide's Derived/Test/ToyasCard.lean, 'card_holds'). Laid BY PROGRAM, IN A SANDBOX (cutbox-door.mjs). By AI agents, Wed Nov 11 2026. No macro, syntax, notation, axiom, sorry.
-/
import Derived.Test.YthjalhfmpffbjaaGreatDoorRows
import GoSem.ClaimSeven
namespace Go.Proofs.YthjalhfmpffbjaaGreatDoor
namespace Rows

/-- THE TIED CARD OF 'groynelaw21.RequestStages'. -/
def requestStagesCard : Claim7 := { stood := { row := requestStagesRow, standIns := [], harness := (true, "472d6e4b87fb0286901671acc141c8681e092b56b8586c0e4e6b8eb56ef3e228"), looks := true }, kinds := [], alts := [], laidByText := true, laidKinds := [.data, .pinned], laidTests := true, laidLooks := .later }
def RequestStagesCardSaid : Prop := Claim7.holds Tryz.pinned (.plain (OpenSpec.ofChange requestStagesSpec)) requestStagesCard

/-- THE TIED CARD OF 'groynelaw21.RequestFrees'. -/
def requestFreesCard : Claim7 := { stood := { row := requestFreesRow, standIns := [], harness := (true, "472d6e4b87fb0286901671acc141c8681e092b56b8586c0e4e6b8eb56ef3e228"), looks := true }, kinds := [], alts := [], laidByText := true, laidKinds := [.data, .pinned], laidTests := true, laidLooks := .later }
def RequestFreesCardSaid : Prop := Claim7.holds Tryz.pinned (.plain (OpenSpec.ofChange requestFreesSpec)) requestFreesCard

/-- THE TIED CARD OF 'groynelaw21.RequestAll'. -/
def requestAllCard : Claim7 := { stood := { row := requestAllRow, standIns := [], harness := (true, "472d6e4b87fb0286901671acc141c8681e092b56b8586c0e4e6b8eb56ef3e228"), looks := true }, kinds := [], alts := [], laidByText := true, laidKinds := [.data, .pinned], laidTests := true, laidLooks := .later }
def RequestAllCardSaid : Prop := Claim7.holds Tryz.pinned (.plain (OpenSpec.ofChange requestAllSpec)) requestAllCard

/-- THE TIED CARD OF 'groynelaw21.RequestHolds'. -/
def requestHoldsCard : Claim7 := { stood := { row := requestHoldsRow, standIns := [], harness := (true, "472d6e4b87fb0286901671acc141c8681e092b56b8586c0e4e6b8eb56ef3e228"), looks := true }, kinds := [], alts := [], laidByText := true, laidKinds := [.data, .pinned], laidTests := true, laidLooks := .later }
def RequestHoldsCardSaid : Prop := Claim7.holds Tryz.pinned (.plain (OpenSpec.ofChange requestHoldsSpec)) requestHoldsCard

/-- THE TIED CARD OF 'groynelaw21.RequestOne'. -/
def requestOneCard : Claim7 := { stood := { row := requestOneRow, standIns := [], harness := (true, "472d6e4b87fb0286901671acc141c8681e092b56b8586c0e4e6b8eb56ef3e228"), looks := true }, kinds := [], alts := [], laidByText := true, laidKinds := [.data, .pinned], laidTests := true, laidLooks := .later }
def RequestOneCardSaid : Prop := Claim7.holds Tryz.pinned (.plain (OpenSpec.ofChange requestOneSpec)) requestOneCard

/-- THE SECOND FORM's CARD OF 'groynelaw21.RequestStages'. -/
def requestStagesUptoCard : Claim7 := { stood := { row := requestStagesUptoRow, standIns := [], harness := (true, "472d6e4b87fb0286901671acc141c8681e092b56b8586c0e4e6b8eb56ef3e228"), looks := true }, kinds := [], alts := [], laidByText := true, laidKinds := [.data, .pinned], laidTests := true, laidLooks := .later }
def RequestStagesUptoCardSaid : Prop := Claim7.holds Tryz.pinned (.plain (OpenSpec.upto requestStagesSpec)) requestStagesUptoCard

/-- THE SECOND FORM's CARD OF 'groynelaw21.RequestFrees'. -/
def requestFreesUptoCard : Claim7 := { stood := { row := requestFreesUptoRow, standIns := [], harness := (true, "472d6e4b87fb0286901671acc141c8681e092b56b8586c0e4e6b8eb56ef3e228"), looks := true }, kinds := [], alts := [], laidByText := true, laidKinds := [.data, .pinned], laidTests := true, laidLooks := .later }
def RequestFreesUptoCardSaid : Prop := Claim7.holds Tryz.pinned (.plain (OpenSpec.upto requestFreesSpec)) requestFreesUptoCard

/-- THE SECOND FORM's CARD OF 'groynelaw21.RequestAll'. -/
def requestAllUptoCard : Claim7 := { stood := { row := requestAllUptoRow, standIns := [], harness := (true, "472d6e4b87fb0286901671acc141c8681e092b56b8586c0e4e6b8eb56ef3e228"), looks := true }, kinds := [], alts := [], laidByText := true, laidKinds := [.data, .pinned], laidTests := true, laidLooks := .later }
def RequestAllUptoCardSaid : Prop := Claim7.holds Tryz.pinned (.plain (OpenSpec.upto requestAllSpec)) requestAllUptoCard

/-- THE SECOND FORM's CARD OF 'groynelaw21.RequestHolds'. -/
def requestHoldsUptoCard : Claim7 := { stood := { row := requestHoldsUptoRow, standIns := [], harness := (true, "472d6e4b87fb0286901671acc141c8681e092b56b8586c0e4e6b8eb56ef3e228"), looks := true }, kinds := [], alts := [], laidByText := true, laidKinds := [.data, .pinned], laidTests := true, laidLooks := .later }
def RequestHoldsUptoCardSaid : Prop := Claim7.holds Tryz.pinned (.plain (OpenSpec.upto requestHoldsSpec)) requestHoldsUptoCard

/-- THE SECOND FORM's CARD OF 'groynelaw21.RequestOne'. -/
def requestOneUptoCard : Claim7 := { stood := { row := requestOneUptoRow, standIns := [], harness := (true, "472d6e4b87fb0286901671acc141c8681e092b56b8586c0e4e6b8eb56ef3e228"), looks := true }, kinds := [], alts := [], laidByText := true, laidKinds := [.data, .pinned], laidTests := true, laidLooks := .later }
def RequestOneUptoCardSaid : Prop := Claim7.holds Tryz.pinned (.plain (OpenSpec.upto requestOneSpec)) requestOneUptoCard
end Rows
end Go.Proofs.YthjalhfmpffbjaaGreatDoor
