/-
  DERIVED. GIVEN WITH THE SEED: THE CARDS: each row of YtndnkbekhmndhaaGreatDoorRows.lean that lists a variable, with what it lists TIED to the program's text (the seventh form; the later family's looks); each row that meets fmt, with fmt's text TOLD by the authors' own Lean function (tested against real Go, not proved from fmt's source: count such statements apart). THE CARD IS WHAT COUNTS. Prove the row's statement (the work); the ties are given (YtndnkbekhmndhaaGreatDoorTie.lean); close each card by the builder's one call (the guide's Derived/Test/ToyasCard.lean, 'card_holds'). Laid BY PROGRAM, IN A SANDBOX (cutbox-door.mjs). By AI agents, Wed Nov 11 2026. No macro, syntax, notation, axiom, sorry.
-/
import Derived.Test.YtndnkbekhmndhaaGreatDoorRows
import GoSem.ClaimSeven
namespace Go.Proofs.YtndnkbekhmndhaaGreatDoor
namespace Rows

/-- THE TIED CARD OF 'groynelaw06.RefsAre'. -/
def refsAreCard : Claim7 := { stood := { row := refsAreRow, standIns := [], harness := (true, "ed090c66786df8b87d8109ea90547c795133eadb9bca5d012d58cf1f62b1de06"), looks := true }, kinds := [], alts := [], laidByText := true, laidKinds := [.data, .pinned], laidTests := true, laidLooks := .later }
def RefsAreCardSaid : Prop := Claim7.holds Tryz.pinned (.plain (OpenSpec.ofChange refsAreSpec)) refsAreCard

/-- THE TIED CARD OF 'groynelaw17.WarmIs'. -/
def warmIsCard : Claim7 := { stood := { row := warmIsRow, standIns := [], harness := (true, "ed090c66786df8b87d8109ea90547c795133eadb9bca5d012d58cf1f62b1de06"), looks := true }, kinds := [], alts := [], laidByText := true, laidKinds := [.data, .pinned], laidTests := true, laidLooks := .later }
def WarmIsCardSaid : Prop := Claim7.holds Tryz.pinned (.plain (OpenSpec.ofChange warmIsSpec)) warmIsCard

/-- THE TIED CARD OF 'groynelaw17.WarmSteps'. -/
def warmStepsCard : Claim7 := { stood := { row := warmStepsRow, standIns := [], harness := (true, "ed090c66786df8b87d8109ea90547c795133eadb9bca5d012d58cf1f62b1de06"), looks := true }, kinds := [], alts := [], laidByText := true, laidKinds := [.data, .pinned], laidTests := true, laidLooks := .later }
def WarmStepsCardSaid : Prop := Claim7.holds Tryz.pinned (.plain (OpenSpec.ofChange warmStepsSpec)) warmStepsCard

/-- THE TIED CARD OF 'groynelaw17.WarmWhole'. -/
def warmWholeCard : Claim7 := { stood := { row := warmWholeRow, standIns := [], harness := (true, "ed090c66786df8b87d8109ea90547c795133eadb9bca5d012d58cf1f62b1de06"), looks := true }, kinds := [], alts := [], laidByText := true, laidKinds := [.data, .pinned], laidTests := true, laidLooks := .later }
def WarmWholeCardSaid : Prop := Claim7.holds Tryz.pinned (.plain (OpenSpec.ofChange warmWholeSpec)) warmWholeCard

/-- THE TIED CARD OF 'groynelaw08.EvalOrphans'. -/
def evalOrphansCard : Claim7 := { stood := { row := evalOrphansRow, standIns := [], harness := (true, "ed090c66786df8b87d8109ea90547c795133eadb9bca5d012d58cf1f62b1de06"), looks := true }, kinds := [], alts := [], laidByText := true, laidKinds := [.data, .pinned], laidTests := true, laidLooks := .later }
def EvalOrphansCardSaid : Prop := Claim7.holds Tryz.pinned (.plain (OpenSpec.ofChange evalOrphansSpec)) evalOrphansCard

/-- THE TIED CARD OF 'groynelaw17.WarmPlans'. -/
def warmPlansCard : Claim7 := { stood := { row := warmPlansRow, standIns := [], harness := (true, "ed090c66786df8b87d8109ea90547c795133eadb9bca5d012d58cf1f62b1de06"), looks := true }, kinds := [], alts := [], laidByText := true, laidKinds := [.data, .pinned], laidTests := true, laidLooks := .later }
def WarmPlansCardSaid : Prop := Claim7.holds Tryz.pinned (.plain (OpenSpec.ofChange warmPlansSpec)) warmPlansCard

/-- THE SECOND FORM's CARD OF 'groynelaw06.RefsAre'. -/
def refsAreUptoCard : Claim7 := { stood := { row := refsAreUptoRow, standIns := [], harness := (true, "ed090c66786df8b87d8109ea90547c795133eadb9bca5d012d58cf1f62b1de06"), looks := true }, kinds := [], alts := [], laidByText := true, laidKinds := [.data, .pinned], laidTests := true, laidLooks := .later }
def RefsAreUptoCardSaid : Prop := Claim7.holds Tryz.pinned (.plain (OpenSpec.upto refsAreSpec)) refsAreUptoCard

/-- THE SECOND FORM's CARD OF 'groynelaw17.WarmIs'. -/
def warmIsUptoCard : Claim7 := { stood := { row := warmIsUptoRow, standIns := [], harness := (true, "ed090c66786df8b87d8109ea90547c795133eadb9bca5d012d58cf1f62b1de06"), looks := true }, kinds := [], alts := [], laidByText := true, laidKinds := [.data, .pinned], laidTests := true, laidLooks := .later }
def WarmIsUptoCardSaid : Prop := Claim7.holds Tryz.pinned (.plain (OpenSpec.upto warmIsSpec)) warmIsUptoCard

/-- THE SECOND FORM's CARD OF 'groynelaw17.WarmSteps'. -/
def warmStepsUptoCard : Claim7 := { stood := { row := warmStepsUptoRow, standIns := [], harness := (true, "ed090c66786df8b87d8109ea90547c795133eadb9bca5d012d58cf1f62b1de06"), looks := true }, kinds := [], alts := [], laidByText := true, laidKinds := [.data, .pinned], laidTests := true, laidLooks := .later }
def WarmStepsUptoCardSaid : Prop := Claim7.holds Tryz.pinned (.plain (OpenSpec.upto warmStepsSpec)) warmStepsUptoCard

/-- THE SECOND FORM's CARD OF 'groynelaw17.WarmWhole'. -/
def warmWholeUptoCard : Claim7 := { stood := { row := warmWholeUptoRow, standIns := [], harness := (true, "ed090c66786df8b87d8109ea90547c795133eadb9bca5d012d58cf1f62b1de06"), looks := true }, kinds := [], alts := [], laidByText := true, laidKinds := [.data, .pinned], laidTests := true, laidLooks := .later }
def WarmWholeUptoCardSaid : Prop := Claim7.holds Tryz.pinned (.plain (OpenSpec.upto warmWholeSpec)) warmWholeUptoCard

/-- THE SECOND FORM's CARD OF 'groynelaw08.EvalOrphans'. -/
def evalOrphansUptoCard : Claim7 := { stood := { row := evalOrphansUptoRow, standIns := [], harness := (true, "ed090c66786df8b87d8109ea90547c795133eadb9bca5d012d58cf1f62b1de06"), looks := true }, kinds := [], alts := [], laidByText := true, laidKinds := [.data, .pinned], laidTests := true, laidLooks := .later }
def EvalOrphansUptoCardSaid : Prop := Claim7.holds Tryz.pinned (.plain (OpenSpec.upto evalOrphansSpec)) evalOrphansUptoCard

/-- THE SECOND FORM's CARD OF 'groynelaw17.WarmPlans'. -/
def warmPlansUptoCard : Claim7 := { stood := { row := warmPlansUptoRow, standIns := [], harness := (true, "ed090c66786df8b87d8109ea90547c795133eadb9bca5d012d58cf1f62b1de06"), looks := true }, kinds := [], alts := [], laidByText := true, laidKinds := [.data, .pinned], laidTests := true, laidLooks := .later }
def WarmPlansUptoCardSaid : Prop := Claim7.holds Tryz.pinned (.plain (OpenSpec.upto warmPlansSpec)) warmPlansUptoCard
end Rows
end Go.Proofs.YtndnkbekhmndhaaGreatDoor
