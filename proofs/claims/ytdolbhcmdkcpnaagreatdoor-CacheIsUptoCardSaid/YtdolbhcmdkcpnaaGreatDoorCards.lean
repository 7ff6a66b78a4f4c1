/-
  DERIVED. GIVEN WITH THE SEED: THE CARDS: each row of YtdolbhcmdkcpnaaGreatDoorRows.lean that lists a variable, with what it lists TIED to the program's text (the seventh form; the later family's looks); each row that meets fmt, with fmt's text TOLD by the authors' own Lean function (tested against real Go, not proved from fmt's source: count such statements apart). THE CARD IS WHAT COUNTS. Prove the row's statement (the work); the ties are given (YtdolbhcmdkcpnaaGreatDoorTie.lean); close each card by the builder's one call (the guide's Derived/Test/ToyasCard.lean, 'card_holds'). Laid BY PROGRAM, IN A SANDBOX (cutbox-door.mjs). By AI agents, Wed Nov 11 2026. No macro, syntax, notation, axiom, sorry.
-/
import Derived.Test.YtdolbhcmdkcpnaaGreatDoorRows
import GoSem.ClaimSeven
namespace Go.Proofs.YtdolbhcmdkcpnaaGreatDoor
namespace Rows

/-- THE TIED CARD OF 'groynelaw16.CacheIs'. -/
def cacheIsCard : Claim7 := { stood := { row := cacheIsRow, standIns := [], harness := (true, "4a0e4b2e71d07c0228f6a69e919b24ca12775e2c56b40438f07b52b74b89b148"), looks := true }, kinds := [], alts := [], laidByText := true, laidKinds := [.data, .pinned], laidTests := true, laidLooks := .later }
def CacheIsCardSaid : Prop := Claim7.holds Tryz.pinned (.plain (OpenSpec.ofChange cacheIsSpec)) cacheIsCard

/-- THE TIED CARD OF 'groynelaw16.CacheHas'. -/
def cacheHasCard : Claim7 := { stood := { row := cacheHasRow, standIns := [], harness := (true, "4a0e4b2e71d07c0228f6a69e919b24ca12775e2c56b40438f07b52b74b89b148"), looks := true }, kinds := [], alts := [], laidByText := true, laidKinds := [.data, .pinned], laidTests := true, laidLooks := .later }
def CacheHasCardSaid : Prop := Claim7.holds Tryz.pinned (.plain (OpenSpec.ofChange cacheHasSpec)) cacheHasCard

/-- THE TIED CARD OF 'groynelaw16.CacheServes'. -/
def cacheServesCard : Claim7 := { stood := { row := cacheServesRow, standIns := [], harness := (true, "4a0e4b2e71d07c0228f6a69e919b24ca12775e2c56b40438f07b52b74b89b148"), looks := true }, kinds := [], alts := [], laidByText := true, laidKinds := [.data, .pinned], laidTests := true, laidLooks := .later }
def CacheServesCardSaid : Prop := Claim7.holds Tryz.pinned (.plain (OpenSpec.ofChange cacheServesSpec)) cacheServesCard

/-- THE TIED CARD OF 'groynelaw15.PlanIs'. -/
def planIsCard : Claim7 := { stood := { row := planIsRow, standIns := [], harness := (true, "4a0e4b2e71d07c0228f6a69e919b24ca12775e2c56b40438f07b52b74b89b148"), looks := true }, kinds := [], alts := [], laidByText := true, laidKinds := [.data, .pinned], laidTests := true, laidLooks := .later }
def PlanIsCardSaid : Prop := Claim7.holds Tryz.pinned (.plain (OpenSpec.ofChange planIsSpec)) planIsCard

/-- THE TIED CARD OF 'groynelaw16.CacheAgain'. -/
def cacheAgainCard : Claim7 := { stood := { row := cacheAgainRow, standIns := [], harness := (true, "4a0e4b2e71d07c0228f6a69e919b24ca12775e2c56b40438f07b52b74b89b148"), looks := true }, kinds := [], alts := [], laidByText := true, laidKinds := [.data, .pinned], laidTests := true, laidLooks := .later }
def CacheAgainCardSaid : Prop := Claim7.holds Tryz.pinned (.plain (OpenSpec.ofChange cacheAgainSpec)) cacheAgainCard

/-- THE TIED CARD OF 'groynelaw15.PlanSame'. -/
def planSameCard : Claim7 := { stood := { row := planSameRow, standIns := [], harness := (true, "4a0e4b2e71d07c0228f6a69e919b24ca12775e2c56b40438f07b52b74b89b148"), looks := true }, kinds := [], alts := [], laidByText := true, laidKinds := [.data, .pinned], laidTests := true, laidLooks := .later }
def PlanSameCardSaid : Prop := Claim7.holds Tryz.pinned (.plain (OpenSpec.ofChange planSameSpec)) planSameCard

/-- THE TIED CARD OF 'groynelaw15.PlanOrder'. -/
def planOrderCard : Claim7 := { stood := { row := planOrderRow, standIns := [], harness := (true, "4a0e4b2e71d07c0228f6a69e919b24ca12775e2c56b40438f07b52b74b89b148"), looks := true }, kinds := [], alts := [], laidByText := true, laidKinds := [.data, .pinned], laidTests := true, laidLooks := .later }
def PlanOrderCardSaid : Prop := Claim7.holds Tryz.pinned (.plain (OpenSpec.ofChange planOrderSpec)) planOrderCard

/-- THE TIED CARD OF 'groynelaw15.PlanWaits'. -/
def planWaitsCard : Claim7 := { stood := { row := planWaitsRow, standIns := [], harness := (true, "4a0e4b2e71d07c0228f6a69e919b24ca12775e2c56b40438f07b52b74b89b148"), looks := true }, kinds := [], alts := [], laidByText := true, laidKinds := [.data, .pinned], laidTests := true, laidLooks := .later }
def PlanWaitsCardSaid : Prop := Claim7.holds Tryz.pinned (.plain (OpenSpec.ofChange planWaitsSpec)) planWaitsCard

/-- THE TIED CARD OF 'groynelaw15.PlanKeeps'. -/
def planKeepsCard : Claim7 := { stood := { row := planKeepsRow, standIns := [], harness := (true, "4a0e4b2e71d07c0228f6a69e919b24ca12775e2c56b40438f07b52b74b89b148"), looks := true }, kinds := [], alts := [], laidByText := true, laidKinds := [.data, .pinned], laidTests := true, laidLooks := .later }
def PlanKeepsCardSaid : Prop := Claim7.holds Tryz.pinned (.plain (OpenSpec.ofChange planKeepsSpec)) planKeepsCard

/-- THE TIED CARD OF 'groynelaw15.PlanServes'. -/
def planServesCard : Claim7 := { stood := { row := planServesRow, standIns := [], harness := (true, "4a0e4b2e71d07c0228f6a69e919b24ca12775e2c56b40438f07b52b74b89b148"), looks := true }, kinds := [], alts := [], laidByText := true, laidKinds := [.data, .pinned], laidTests := true, laidLooks := .later }
def PlanServesCardSaid : Prop := Claim7.holds Tryz.pinned (.plain (OpenSpec.ofChange planServesSpec)) planServesCard

/-- THE TIED CARD OF 'groynelaw16.CachePlans'. -/
def cachePlansCard : Claim7 := { stood := { row := cachePlansRow, standIns := [], harness := (true, "4a0e4b2e71d07c0228f6a69e919b24ca12775e2c56b40438f07b52b74b89b148"), looks := true }, kinds := [], alts := [], laidByText := true, laidKinds := [.data, .pinned], laidTests := true, laidLooks := .later }
def CachePlansCardSaid : Prop := Claim7.holds Tryz.pinned (.plain (OpenSpec.ofChange cachePlansSpec)) cachePlansCard

/-- THE SECOND FORM's CARD OF 'groynelaw16.CacheIs'. -/
def cacheIsUptoCard : Claim7 := { stood := { row := cacheIsUptoRow, standIns := [], harness := (true, "4a0e4b2e71d07c0228f6a69e919b24ca12775e2c56b40438f07b52b74b89b148"), looks := true }, kinds := [], alts := [], laidByText := true, laidKinds := [.data, .pinned], laidTests := true, laidLooks := .later }
def CacheIsUptoCardSaid : Prop := Claim7.holds Tryz.pinned (.plain (OpenSpec.upto cacheIsSpec)) cacheIsUptoCard

/-- THE SECOND FORM's CARD OF 'groynelaw16.CacheHas'. -/
def cacheHasUptoCard : Claim7 := { stood := { row := cacheHasUptoRow, standIns := [], harness := (true, "4a0e4b2e71d07c0228f6a69e919b24ca12775e2c56b40438f07b52b74b89b148"), looks := true }, kinds := [], alts := [], laidByText := true, laidKinds := [.data, .pinned], laidTests := true, laidLooks := .later }
def CacheHasUptoCardSaid : Prop := Claim7.holds Tryz.pinned (.plain (OpenSpec.upto cacheHasSpec)) cacheHasUptoCard

/-- THE SECOND FORM's CARD OF 'groynelaw16.CacheServes'. -/
def cacheServesUptoCard : Claim7 := { stood := { row := cacheServesUptoRow, standIns := [], harness := (true, "4a0e4b2e71d07c0228f6a69e919b24ca12775e2c56b40438f07b52b74b89b148"), looks := true }, kinds := [], alts := [], laidByText := true, laidKinds := [.data, .pinned], laidTests := true, laidLooks := .later }
def CacheServesUptoCardSaid : Prop := Claim7.holds Tryz.pinned (.plain (OpenSpec.upto cacheServesSpec)) cacheServesUptoCard

/-- THE SECOND FORM's CARD OF 'groynelaw15.PlanIs'. -/
def planIsUptoCard : Claim7 := { stood := { row := planIsUptoRow, standIns := [], harness := (true, "4a0e4b2e71d07c0228f6a69e919b24ca12775e2c56b40438f07b52b74b89b148"), looks := true }, kinds := [], alts := [], laidByText := true, laidKinds := [.data, .pinned], laidTests := true, laidLooks := .later }
def PlanIsUptoCardSaid : Prop := Claim7.holds Tryz.pinned (.plain (OpenSpec.upto planIsSpec)) planIsUptoCard

/-- THE SECOND FORM's CARD OF 'groynelaw16.CacheAgain'. -/
def cacheAgainUptoCard : Claim7 := { stood := { row := cacheAgainUptoRow, standIns := [], harness := (true, "4a0e4b2e71d07c0228f6a69e919b24ca12775e2c56b40438f07b52b74b89b148"), looks := true }, kinds := [], alts := [], laidByText := true, laidKinds := [.data, .pinned], laidTests := true, laidLooks := .later }
def CacheAgainUptoCardSaid : Prop := Claim7.holds Tryz.pinned (.plain (OpenSpec.upto cacheAgainSpec)) cacheAgainUptoCard

/-- THE SECOND FORM's CARD OF 'groynelaw15.PlanSame'. -/
def planSameUptoCard : Claim7 := { stood := { row := planSameUptoRow, standIns := [], harness := (true, "4a0e4b2e71d07c0228f6a69e919b24ca12775e2c56b40438f07b52b74b89b148"), looks := true }, kinds := [], alts := [], laidByText := true, laidKinds := [.data, .pinned], laidTests := true, laidLooks := .later }
def PlanSameUptoCardSaid : Prop := Claim7.holds Tryz.pinned (.plain (OpenSpec.upto planSameSpec)) planSameUptoCard

/-- THE SECOND FORM's CARD OF 'groynelaw15.PlanOrder'. -/
def planOrderUptoCard : Claim7 := { stood := { row := planOrderUptoRow, standIns := [], harness := (true, "4a0e4b2e71d07c0228f6a69e919b24ca12775e2c56b40438f07b52b74b89b148"), looks := true }, kinds := [], alts := [], laidByText := true, laidKinds := [.data, .pinned], laidTests := true, laidLooks := .later }
def PlanOrderUptoCardSaid : Prop := Claim7.holds Tryz.pinned (.plain (OpenSpec.upto planOrderSpec)) planOrderUptoCard

/-- THE SECOND FORM's CARD OF 'groynelaw15.PlanWaits'. -/
def planWaitsUptoCard : Claim7 := { stood := { row := planWaitsUptoRow, standIns := [], harness := (true, "4a0e4b2e71d07c0228f6a69e919b24ca12775e2c56b40438f07b52b74b89b148"), looks := true }, kinds := [], alts := [], laidByText := true, laidKinds := [.data, .pinned], laidTests := true, laidLooks := .later }
def PlanWaitsUptoCardSaid : Prop := Claim7.holds Tryz.pinned (.plain (OpenSpec.upto planWaitsSpec)) planWaitsUptoCard

/-- THE SECOND FORM's CARD OF 'groynelaw15.PlanKeeps'. -/
def planKeepsUptoCard : Claim7 := { stood := { row := planKeepsUptoRow, standIns := [], harness := (true, "4a0e4b2e71d07c0228f6a69e919b24ca12775e2c56b40438f07b52b74b89b148"), looks := true }, kinds := [], alts := [], laidByText := true, laidKinds := [.data, .pinned], laidTests := true, laidLooks := .later }
def PlanKeepsUptoCardSaid : Prop := Claim7.holds Tryz.pinned (.plain (OpenSpec.upto planKeepsSpec)) planKeepsUptoCard

/-- THE SECOND FORM's CARD OF 'groynelaw15.PlanServes'. -/
def planServesUptoCard : Claim7 := { stood := { row := planServesUptoRow, standIns := [], harness := (true, "4a0e4b2e71d07c0228f6a69e919b24ca12775e2c56b40438f07b52b74b89b148"), looks := true }, kinds := [], alts := [], laidByText := true, laidKinds := [.data, .pinned], laidTests := true, laidLooks := .later }
def PlanServesUptoCardSaid : Prop := Claim7.holds Tryz.pinned (.plain (OpenSpec.upto planServesSpec)) planServesUptoCard

/-- THE SECOND FORM's CARD OF 'groynelaw16.CachePlans'. -/
def cachePlansUptoCard : Claim7 := { stood := { row := cachePlansUptoRow, standIns := [], harness := (true, "4a0e4b2e71d07c0228f6a69e919b24ca12775e2c56b40438f07b52b74b89b148"), looks := true }, kinds := [], alts := [], laidByText := true, laidKinds := [.data, .pinned], laidTests := true, laidLooks := .later }
def CachePlansUptoCardSaid : Prop := Claim7.holds Tryz.pinned (.plain (OpenSpec.upto cachePlansSpec)) cachePlansUptoCard
end Rows
end Go.Proofs.YtdolbhcmdkcpnaaGreatDoor
