/-
  DERIVED. GIVEN WITH THE SEED: THE CARDS: each row of YtbmdbkgjgjggiaaDoorRows.lean that lists a variable, with what it lists TIED to the program's text (the seventh form; the later family's looks); each row that meets fmt, with fmt's text TOLD by the authors' own Lean function (tested against real Go, not proved from fmt's source: count such statements apart). THE CARD IS WHAT COUNTS. Prove the row's statement (the work); the ties are given (YtbmdbkgjgjggiaaDoorTie.lean); close each card by the builder's one call (the guide's Derived/Test/ToyasCard.lean, 'card_holds'). Laid BY PROGRAM, IN A SANDBOX (cutbox-door.mjs). By AI agents, Wed Nov 11 2026. No macro, syntax, notation, axiom, sorry.
-/
import Derived.Test.YtbmdbkgjgjggiaaDoorRows
import GoSem.ClaimSeven
namespace Go.Proofs.YtbmdbkgjgjggiaaDoor
namespace Rows

/-- THE TIED CARD OF 'groynelaw03.ResNames'. -/
def resNamesCard : Claim7 := { stood := { row := resNamesRow, standIns := [], harness := (true, "17a31a67064db3baee7e7b539136cfc01bdedc85e525fa1fb3db6675b7850125"), looks := false }, kinds := [], alts := [], laidByText := true, laidKinds := [.data, .pinned], laidTests := true, laidLooks := .later }
def ResNamesCardSaid : Prop := Claim7.holds Tryd.pinned (.plain (OpenSpec.ofChange resNamesSpec)) resNamesCard

/-- THE TIED CARD OF 'groynelaw03.ResTwice'. -/
def resTwiceCard : Claim7 := { stood := { row := resTwiceRow, standIns := [], harness := (true, "17a31a67064db3baee7e7b539136cfc01bdedc85e525fa1fb3db6675b7850125"), looks := false }, kinds := [], alts := [], laidByText := true, laidKinds := [.data, .pinned], laidTests := true, laidLooks := .later }
def ResTwiceCardSaid : Prop := Claim7.holds Tryd.pinned (.plain (OpenSpec.ofChange resTwiceSpec)) resTwiceCard

/-- THE SECOND FORM's CARD OF 'groynelaw03.ResNames'. -/
def resNamesUptoCard : Claim7 := { stood := { row := resNamesUptoRow, standIns := [], harness := (true, "17a31a67064db3baee7e7b539136cfc01bdedc85e525fa1fb3db6675b7850125"), looks := false }, kinds := [], alts := [], laidByText := true, laidKinds := [.data, .pinned], laidTests := true, laidLooks := .later }
def ResNamesUptoCardSaid : Prop := Claim7.holds Tryd.pinned (.plain (OpenSpec.upto resNamesSpec)) resNamesUptoCard

/-- THE SECOND FORM's CARD OF 'groynelaw03.ResTwice'. -/
def resTwiceUptoCard : Claim7 := { stood := { row := resTwiceUptoRow, standIns := [], harness := (true, "17a31a67064db3baee7e7b539136cfc01bdedc85e525fa1fb3db6675b7850125"), looks := false }, kinds := [], alts := [], laidByText := true, laidKinds := [.data, .pinned], laidTests := true, laidLooks := .later }
def ResTwiceUptoCardSaid : Prop := Claim7.holds Tryd.pinned (.plain (OpenSpec.upto resTwiceSpec)) resTwiceUptoCard
end Rows
end Go.Proofs.YtbmdbkgjgjggiaaDoor
