/-
  DERIVED. GIVEN WITH THE SEED: THE CARDS: each row of YtdhbkffionmmaaaGreatDoorRows.lean that lists a variable, with what it lists TIED to the program's text (the seventh form; the later family's looks); each row that meets fmt, with fmt's text TOLD by the authors' own Lean function (tested against real Go, not proved from fmt's source: count such statements apart). THE CARD IS WHAT COUNTS. Prove the row's statement (the work); the ties are given (YtdhbkffionmmaaaGreatDoorTie.lean); close each card by the builder's one call (the guide's Derived/Test/ToyasCard.lean, 'card_holds'). Laid BY PROGRAM, IN A SANDBOX (cutbox-door.mjs). By AI agents, Wed Nov 11 2026. No macro, syntax, notation, axiom, sorry.
-/
import Derived.Test.YtdhbkffionmmaaaGreatDoorRows
import GoSem.ClaimSeven
namespace Go.Proofs.YtdhbkffionmmaaaGreatDoor
namespace Rows

/-- THE TIED CARD OF 'groynelaw08.EvalGood'. -/
def evalGoodCard : Claim7 := { stood := { row := evalGoodRow, standIns := [], harness := (true, "22a0db4e3e39da56e0a62bad7bc6ed6f067ef20aee265f9298a466b7f19417d4"), looks := false }, kinds := [], alts := [], laidByText := true, laidKinds := [.data, .pinned], laidTests := true, laidLooks := .later }
def EvalGoodCardSaid : Prop := Claim7.holds Tryz.pinned (.plain (OpenSpec.ofChange evalGoodSpec)) evalGoodCard

/-- THE TIED CARD OF 'groynelaw08.EvalFinds'. -/
def evalFindsCard : Claim7 := { stood := { row := evalFindsRow, standIns := [], harness := (true, "22a0db4e3e39da56e0a62bad7bc6ed6f067ef20aee265f9298a466b7f19417d4"), looks := false }, kinds := [], alts := [], laidByText := true, laidKinds := [.data, .pinned], laidTests := true, laidLooks := .later }
def EvalFindsCardSaid : Prop := Claim7.holds Tryz.pinned (.plain (OpenSpec.ofChange evalFindsSpec)) evalFindsCard

/-- THE TIED CARD OF 'groynelaw08.EvalDraws'. -/
def evalDrawsCard : Claim7 := { stood := { row := evalDrawsRow, standIns := [], harness := (true, "22a0db4e3e39da56e0a62bad7bc6ed6f067ef20aee265f9298a466b7f19417d4"), looks := false }, kinds := [], alts := [], laidByText := true, laidKinds := [.data, .pinned], laidTests := true, laidLooks := .later }
def EvalDrawsCardSaid : Prop := Claim7.holds Tryz.pinned (.plain (OpenSpec.ofChange evalDrawsSpec)) evalDrawsCard

/-- THE TIED CARD OF 'groynelaw08.EvalEmpty'. -/
def evalEmptyCard : Claim7 := { stood := { row := evalEmptyRow, standIns := [], harness := (true, "22a0db4e3e39da56e0a62bad7bc6ed6f067ef20aee265f9298a466b7f19417d4"), looks := false }, kinds := [], alts := [], laidByText := true, laidKinds := [.data, .pinned], laidTests := true, laidLooks := .later }
def EvalEmptyCardSaid : Prop := Claim7.holds Tryz.pinned (.plain (OpenSpec.ofChange evalEmptySpec)) evalEmptyCard

/-- THE TIED CARD OF 'groynelaw08.EvalOrphans'. -/
def evalOrphansCard : Claim7 := { stood := { row := evalOrphansRow, standIns := [], harness := (true, "22a0db4e3e39da56e0a62bad7bc6ed6f067ef20aee265f9298a466b7f19417d4"), looks := false }, kinds := [], alts := [], laidByText := true, laidKinds := [.data, .pinned], laidTests := true, laidLooks := .later }
def EvalOrphansCardSaid : Prop := Claim7.holds Tryz.pinned (.plain (OpenSpec.ofChange evalOrphansSpec)) evalOrphansCard

/-- THE SECOND FORM's CARD OF 'groynelaw08.EvalGood'. -/
def evalGoodUptoCard : Claim7 := { stood := { row := evalGoodUptoRow, standIns := [], harness := (true, "22a0db4e3e39da56e0a62bad7bc6ed6f067ef20aee265f9298a466b7f19417d4"), looks := false }, kinds := [], alts := [], laidByText := true, laidKinds := [.data, .pinned], laidTests := true, laidLooks := .later }
def EvalGoodUptoCardSaid : Prop := Claim7.holds Tryz.pinned (.plain (OpenSpec.upto evalGoodSpec)) evalGoodUptoCard

/-- THE SECOND FORM's CARD OF 'groynelaw08.EvalFinds'. -/
def evalFindsUptoCard : Claim7 := { stood := { row := evalFindsUptoRow, standIns := [], harness := (true, "22a0db4e3e39da56e0a62bad7bc6ed6f067ef20aee265f9298a466b7f19417d4"), looks := false }, kinds := [], alts := [], laidByText := true, laidKinds := [.data, .pinned], laidTests := true, laidLooks := .later }
def EvalFindsUptoCardSaid : Prop := Claim7.holds Tryz.pinned (.plain (OpenSpec.upto evalFindsSpec)) evalFindsUptoCard

/-- THE SECOND FORM's CARD OF 'groynelaw08.EvalDraws'. -/
def evalDrawsUptoCard : Claim7 := { stood := { row := evalDrawsUptoRow, standIns := [], harness := (true, "22a0db4e3e39da56e0a62bad7bc6ed6f067ef20aee265f9298a466b7f19417d4"), looks := false }, kinds := [], alts := [], laidByText := true, laidKinds := [.data, .pinned], laidTests := true, laidLooks := .later }
def EvalDrawsUptoCardSaid : Prop := Claim7.holds Tryz.pinned (.plain (OpenSpec.upto evalDrawsSpec)) evalDrawsUptoCard

/-- THE SECOND FORM's CARD OF 'groynelaw08.EvalEmpty'. -/
def evalEmptyUptoCard : Claim7 := { stood := { row := evalEmptyUptoRow, standIns := [], harness := (true, "22a0db4e3e39da56e0a62bad7bc6ed6f067ef20aee265f9298a466b7f19417d4"), looks := false }, kinds := [], alts := [], laidByText := true, laidKinds := [.data, .pinned], laidTests := true, laidLooks := .later }
def EvalEmptyUptoCardSaid : Prop := Claim7.holds Tryz.pinned (.plain (OpenSpec.upto evalEmptySpec)) evalEmptyUptoCard

/-- THE SECOND FORM's CARD OF 'groynelaw08.EvalOrphans'. -/
def evalOrphansUptoCard : Claim7 := { stood := { row := evalOrphansUptoRow, standIns := [], harness := (true, "22a0db4e3e39da56e0a62bad7bc6ed6f067ef20aee265f9298a466b7f19417d4"), looks := false }, kinds := [], alts := [], laidByText := true, laidKinds := [.data, .pinned], laidTests := true, laidLooks := .later }
def EvalOrphansUptoCardSaid : Prop := Claim7.holds Tryz.pinned (.plain (OpenSpec.upto evalOrphansSpec)) evalOrphansUptoCard
end Rows
end Go.Proofs.YtdhbkffionmmaaaGreatDoor
