/-
  DERIVED. GIVEN WITH THE SEED: THE CARDS: each row of YtbggigdchkiffaaDoorRows.lean that lists a variable, with what it lists TIED to the program's text (the seventh form; the later family's looks); each row that meets fmt, with fmt's text TOLD by the authors' own Lean function (tested against real Go, not proved from fmt's source: count such statements apart). THE CARD IS WHAT COUNTS. Prove the row's statement (the work); the ties are given (YtbggigdchkiffaaDoorTie.lean); close each card by the builder's one call (the guide's Derived/Test/ToyasCard.lean, 'card_holds'). Laid BY PROGRAM, IN A SANDBOX (cutbox-door.mjs). By AI agents, Wed Nov 11 2026. No macro, syntax, notation, axiom, sorry.
-/
import Derived.Test.YtbggigdchkiffaaDoorRows
import GoSem.ClaimSeven
namespace Go.Proofs.YtbggigdchkiffaaDoor
namespace Rows

/-- THE TIED CARD OF 'groynelaw03.ResRefs'. -/
def resRefsCard : Claim7 := { stood := { row := resRefsRow, standIns := [], harness := (true, "c575396dae8d46fb43cabf12c9620923cd8a6e5f7c3cbc5db16f71ea083bb10f"), looks := false }, kinds := [], alts := [], laidByText := true, laidKinds := [.data, .pinned], laidTests := true, laidLooks := .later }
def ResRefsCardSaid : Prop := Claim7.holds Tryd.pinned (.plain (OpenSpec.ofChange resRefsSpec)) resRefsCard

/-- THE TIED CARD OF 'groynelaw03.ResNames'. -/
def resNamesCard : Claim7 := { stood := { row := resNamesRow, standIns := [], harness := (true, "c575396dae8d46fb43cabf12c9620923cd8a6e5f7c3cbc5db16f71ea083bb10f"), looks := false }, kinds := [], alts := [], laidByText := true, laidKinds := [.data, .pinned], laidTests := true, laidLooks := .later }
def ResNamesCardSaid : Prop := Claim7.holds Tryd.pinned (.plain (OpenSpec.ofChange resNamesSpec)) resNamesCard

/-- THE TIED CARD OF 'groynelaw03.ResSame'. -/
def resSameCard : Claim7 := { stood := { row := resSameRow, standIns := [], harness := (true, "c575396dae8d46fb43cabf12c9620923cd8a6e5f7c3cbc5db16f71ea083bb10f"), looks := false }, kinds := [], alts := [], laidByText := true, laidKinds := [.data, .pinned], laidTests := true, laidLooks := .later }
def ResSameCardSaid : Prop := Claim7.holds Tryd.pinned (.plain (OpenSpec.ofChange resSameSpec)) resSameCard

/-- THE TIED CARD OF 'groynelaw03.ResOrder'. -/
def resOrderCard : Claim7 := { stood := { row := resOrderRow, standIns := [], harness := (true, "c575396dae8d46fb43cabf12c9620923cd8a6e5f7c3cbc5db16f71ea083bb10f"), looks := false }, kinds := [], alts := [], laidByText := true, laidKinds := [.data, .pinned], laidTests := true, laidLooks := .later }
def ResOrderCardSaid : Prop := Claim7.holds Tryd.pinned (.plain (OpenSpec.ofChange resOrderSpec)) resOrderCard

/-- THE TIED CARD OF 'groynelaw03.ResKinds'. -/
def resKindsCard : Claim7 := { stood := { row := resKindsRow, standIns := [], harness := (true, "c575396dae8d46fb43cabf12c9620923cd8a6e5f7c3cbc5db16f71ea083bb10f"), looks := false }, kinds := [], alts := [], laidByText := true, laidKinds := [.data, .pinned], laidTests := true, laidLooks := .later }
def ResKindsCardSaid : Prop := Claim7.holds Tryd.pinned (.plain (OpenSpec.ofChange resKindsSpec)) resKindsCard

/-- THE TIED CARD OF 'groynelaw03.ResTwice'. -/
def resTwiceCard : Claim7 := { stood := { row := resTwiceRow, standIns := [], harness := (true, "c575396dae8d46fb43cabf12c9620923cd8a6e5f7c3cbc5db16f71ea083bb10f"), looks := false }, kinds := [], alts := [], laidByText := true, laidKinds := [.data, .pinned], laidTests := true, laidLooks := .later }
def ResTwiceCardSaid : Prop := Claim7.holds Tryd.pinned (.plain (OpenSpec.ofChange resTwiceSpec)) resTwiceCard

/-- THE SECOND FORM's CARD OF 'groynelaw03.ResRefs'. -/
def resRefsUptoCard : Claim7 := { stood := { row := resRefsUptoRow, standIns := [], harness := (true, "c575396dae8d46fb43cabf12c9620923cd8a6e5f7c3cbc5db16f71ea083bb10f"), looks := false }, kinds := [], alts := [], laidByText := true, laidKinds := [.data, .pinned], laidTests := true, laidLooks := .later }
def ResRefsUptoCardSaid : Prop := Claim7.holds Tryd.pinned (.plain (OpenSpec.upto resRefsSpec)) resRefsUptoCard

/-- THE SECOND FORM's CARD OF 'groynelaw03.ResNames'. -/
def resNamesUptoCard : Claim7 := { stood := { row := resNamesUptoRow, standIns := [], harness := (true, "c575396dae8d46fb43cabf12c9620923cd8a6e5f7c3cbc5db16f71ea083bb10f"), looks := false }, kinds := [], alts := [], laidByText := true, laidKinds := [.data, .pinned], laidTests := true, laidLooks := .later }
def ResNamesUptoCardSaid : Prop := Claim7.holds Tryd.pinned (.plain (OpenSpec.upto resNamesSpec)) resNamesUptoCard

/-- THE SECOND FORM's CARD OF 'groynelaw03.ResSame'. -/
def resSameUptoCard : Claim7 := { stood := { row := resSameUptoRow, standIns := [], harness := (true, "c575396dae8d46fb43cabf12c9620923cd8a6e5f7c3cbc5db16f71ea083bb10f"), looks := false }, kinds := [], alts := [], laidByText := true, laidKinds := [.data, .pinned], laidTests := true, laidLooks := .later }
def ResSameUptoCardSaid : Prop := Claim7.holds Tryd.pinned (.plain (OpenSpec.upto resSameSpec)) resSameUptoCard

/-- THE SECOND FORM's CARD OF 'groynelaw03.ResOrder'. -/
def resOrderUptoCard : Claim7 := { stood := { row := resOrderUptoRow, standIns := [], harness := (true, "c575396dae8d46fb43cabf12c9620923cd8a6e5f7c3cbc5db16f71ea083bb10f"), looks := false }, kinds := [], alts := [], laidByText := true, laidKinds := [.data, .pinned], laidTests := true, laidLooks := .later }
def ResOrderUptoCardSaid : Prop := Claim7.holds Tryd.pinned (.plain (OpenSpec.upto resOrderSpec)) resOrderUptoCard

/-- THE SECOND FORM's CARD OF 'groynelaw03.ResKinds'. -/
def resKindsUptoCard : Claim7 := { stood := { row := resKindsUptoRow, standIns := [], harness := (true, "c575396dae8d46fb43cabf12c9620923cd8a6e5f7c3cbc5db16f71ea083bb10f"), looks := false }, kinds := [], alts := [], laidByText := true, laidKinds := [.data, .pinned], laidTests := true, laidLooks := .later }
def ResKindsUptoCardSaid : Prop := Claim7.holds Tryd.pinned (.plain (OpenSpec.upto resKindsSpec)) resKindsUptoCard

/-- THE SECOND FORM's CARD OF 'groynelaw03.ResTwice'. -/
def resTwiceUptoCard : Claim7 := { stood := { row := resTwiceUptoRow, standIns := [], harness := (true, "c575396dae8d46fb43cabf12c9620923cd8a6e5f7c3cbc5db16f71ea083bb10f"), looks := false }, kinds := [], alts := [], laidByText := true, laidKinds := [.data, .pinned], laidTests := true, laidLooks := .later }
def ResTwiceUptoCardSaid : Prop := Claim7.holds Tryd.pinned (.plain (OpenSpec.upto resTwiceSpec)) resTwiceUptoCard
end Rows
end Go.Proofs.YtbggigdchkiffaaDoor
