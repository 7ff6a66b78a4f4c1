/-
  DERIVED. GIVEN WITH THE SEED: THE CARDS: each row of YtmjkjmoeicnbnaaGreatDoorRows.lean that lists a variable, with what it lists TIED to the program's text (the seventh form; the later family's looks); each row that meets fmt, with fmt's text TOLD by the authors' own Lean function (tested against real Go, not proved from fmt's source: count such statements apart). THE CARD IS WHAT COUNTS. Prove the row's statement (the work); the ties are given (YtmjkjmoeicnbnaaGreatDoorTie.lean); close each card by the builder's one call (the guide's Derived/Test/ToyasCard.lean, 'card_holds'). Laid BY PROGRAM, IN A SANDBOX (cutbox-door.mjs). By AI agents, Wed Nov 11 2026. No macro, syntax, notation, axiom, sorry.
-/
import Derived.Test.YtmjkjmoeicnbnaaGreatDoorRows
import GoSem.ClaimSeven
namespace Go.Proofs.YtmjkjmoeicnbnaaGreatDoor
namespace Rows

/-- THE TIED CARD OF 'groynelaw06.RefsAre'. -/
def refsAreCard : Claim7 := { stood := { row := refsAreRow, standIns := [], harness := (true, "813d9e5c7dc66e62746346c24c2fa178b04ed5cf1b53f764251eb6b4f4e2e045"), looks := true }, kinds := [], alts := [], laidByText := true, laidKinds := [.data, .pinned], laidTests := true, laidLooks := .later }
def RefsAreCardSaid : Prop := Claim7.holds Tryz.pinned (.plain (OpenSpec.ofChange refsAreSpec)) refsAreCard

/-- THE TIED CARD OF 'groynelaw15.PlanIs'. -/
def planIsCard : Claim7 := { stood := { row := planIsRow, standIns := [], harness := (true, "813d9e5c7dc66e62746346c24c2fa178b04ed5cf1b53f764251eb6b4f4e2e045"), looks := true }, kinds := [], alts := [], laidByText := true, laidKinds := [.data, .pinned], laidTests := true, laidLooks := .later }
def PlanIsCardSaid : Prop := Claim7.holds Tryz.pinned (.plain (OpenSpec.ofChange planIsSpec)) planIsCard

/-- THE TIED CARD OF 'groynelaw17.WarmIs'. -/
def warmIsCard : Claim7 := { stood := { row := warmIsRow, standIns := [], harness := (true, "813d9e5c7dc66e62746346c24c2fa178b04ed5cf1b53f764251eb6b4f4e2e045"), looks := true }, kinds := [], alts := [], laidByText := true, laidKinds := [.data, .pinned], laidTests := true, laidLooks := .later }
def WarmIsCardSaid : Prop := Claim7.holds Tryz.pinned (.plain (OpenSpec.ofChange warmIsSpec)) warmIsCard

/-- THE TIED CARD OF 'groynelaw16.CacheAgain'. -/
def cacheAgainCard : Claim7 := { stood := { row := cacheAgainRow, standIns := [], harness := (true, "813d9e5c7dc66e62746346c24c2fa178b04ed5cf1b53f764251eb6b4f4e2e045"), looks := true }, kinds := [], alts := [], laidByText := true, laidKinds := [.data, .pinned], laidTests := true, laidLooks := .later }
def CacheAgainCardSaid : Prop := Claim7.holds Tryz.pinned (.plain (OpenSpec.ofChange cacheAgainSpec)) cacheAgainCard

/-- THE TIED CARD OF 'groynelaw15.PlanSame'. -/
def planSameCard : Claim7 := { stood := { row := planSameRow, standIns := [], harness := (true, "813d9e5c7dc66e62746346c24c2fa178b04ed5cf1b53f764251eb6b4f4e2e045"), looks := true }, kinds := [], alts := [], laidByText := true, laidKinds := [.data, .pinned], laidTests := true, laidLooks := .later }
def PlanSameCardSaid : Prop := Claim7.holds Tryz.pinned (.plain (OpenSpec.ofChange planSameSpec)) planSameCard

/-- THE TIED CARD OF 'groynelaw15.PlanOrder'. -/
def planOrderCard : Claim7 := { stood := { row := planOrderRow, standIns := [], harness := (true, "813d9e5c7dc66e62746346c24c2fa178b04ed5cf1b53f764251eb6b4f4e2e045"), looks := true }, kinds := [], alts := [], laidByText := true, laidKinds := [.data, .pinned], laidTests := true, laidLooks := .later }
def PlanOrderCardSaid : Prop := Claim7.holds Tryz.pinned (.plain (OpenSpec.ofChange planOrderSpec)) planOrderCard

/-- THE TIED CARD OF 'groynelaw15.PlanWaits'. -/
def planWaitsCard : Claim7 := { stood := { row := planWaitsRow, standIns := [], harness := (true, "813d9e5c7dc66e62746346c24c2fa178b04ed5cf1b53f764251eb6b4f4e2e045"), looks := true }, kinds := [], alts := [], laidByText := true, laidKinds := [.data, .pinned], laidTests := true, laidLooks := .later }
def PlanWaitsCardSaid : Prop := Claim7.holds Tryz.pinned (.plain (OpenSpec.ofChange planWaitsSpec)) planWaitsCard

/-- THE TIED CARD OF 'groynelaw15.PlanKeeps'. -/
def planKeepsCard : Claim7 := { stood := { row := planKeepsRow, standIns := [], harness := (true, "813d9e5c7dc66e62746346c24c2fa178b04ed5cf1b53f764251eb6b4f4e2e045"), looks := true }, kinds := [], alts := [], laidByText := true, laidKinds := [.data, .pinned], laidTests := true, laidLooks := .later }
def PlanKeepsCardSaid : Prop := Claim7.holds Tryz.pinned (.plain (OpenSpec.ofChange planKeepsSpec)) planKeepsCard

/-- THE TIED CARD OF 'groynelaw15.PlanServes'. -/
def planServesCard : Claim7 := { stood := { row := planServesRow, standIns := [], harness := (true, "813d9e5c7dc66e62746346c24c2fa178b04ed5cf1b53f764251eb6b4f4e2e045"), looks := true }, kinds := [], alts := [], laidByText := true, laidKinds := [.data, .pinned], laidTests := true, laidLooks := .later }
def PlanServesCardSaid : Prop := Claim7.holds Tryz.pinned (.plain (OpenSpec.ofChange planServesSpec)) planServesCard

/-- THE TIED CARD OF 'groynelaw16.CachePlans'. -/
def cachePlansCard : Claim7 := { stood := { row := cachePlansRow, standIns := [], harness := (true, "813d9e5c7dc66e62746346c24c2fa178b04ed5cf1b53f764251eb6b4f4e2e045"), looks := true }, kinds := [], alts := [], laidByText := true, laidKinds := [.data, .pinned], laidTests := true, laidLooks := .later }
def CachePlansCardSaid : Prop := Claim7.holds Tryz.pinned (.plain (OpenSpec.ofChange cachePlansSpec)) cachePlansCard

/-- THE TIED CARD OF 'groynelaw17.WarmPlans'. -/
def warmPlansCard : Claim7 := { stood := { row := warmPlansRow, standIns := [], harness := (true, "813d9e5c7dc66e62746346c24c2fa178b04ed5cf1b53f764251eb6b4f4e2e045"), looks := true }, kinds := [], alts := [], laidByText := true, laidKinds := [.data, .pinned], laidTests := true, laidLooks := .later }
def WarmPlansCardSaid : Prop := Claim7.holds Tryz.pinned (.plain (OpenSpec.ofChange warmPlansSpec)) warmPlansCard

/-- THE SECOND FORM's CARD OF 'groynelaw06.RefsAre'. -/
def refsAreUptoCard : Claim7 := { stood := { row := refsAreUptoRow, standIns := [], harness := (true, "813d9e5c7dc66e62746346c24c2fa178b04ed5cf1b53f764251eb6b4f4e2e045"), looks := true }, kinds := [], alts := [], laidByText := true, laidKinds := [.data, .pinned], laidTests := true, laidLooks := .later }
def RefsAreUptoCardSaid : Prop := Claim7.holds Tryz.pinned (.plain (OpenSpec.upto refsAreSpec)) refsAreUptoCard

/-- THE SECOND FORM's CARD OF 'groynelaw15.PlanIs'. -/
def planIsUptoCard : Claim7 := { stood := { row := planIsUptoRow, standIns := [], harness := (true, "813d9e5c7dc66e62746346c24c2fa178b04ed5cf1b53f764251eb6b4f4e2e045"), looks := true }, kinds := [], alts := [], laidByText := true, laidKinds := [.data, .pinned], laidTests := true, laidLooks := .later }
def PlanIsUptoCardSaid : Prop := Claim7.holds Tryz.pinned (.plain (OpenSpec.upto planIsSpec)) planIsUptoCard

/-- THE SECOND FORM's CARD OF 'groynelaw17.WarmIs'. -/
def warmIsUptoCard : Claim7 := { stood := { row := warmIsUptoRow, standIns := [], harness := (true, "813d9e5c7dc66e62746346c24c2fa178b04ed5cf1b53f764251eb6b4f4e2e045"), looks := true }, kinds := [], alts := [], laidByText := true, laidKinds := [.data, .pinned], laidTests := true, laidLooks := .later }
def WarmIsUptoCardSaid : Prop := Claim7.holds Tryz.pinned (.plain (OpenSpec.upto warmIsSpec)) warmIsUptoCard

/-- THE SECOND FORM's CARD OF 'groynelaw16.CacheAgain'. -/
def cacheAgainUptoCard : Claim7 := { stood := { row := cacheAgainUptoRow, standIns := [], harness := (true, "813d9e5c7dc66e62746346c24c2fa178b04ed5cf1b53f764251eb6b4f4e2e045"), looks := true }, kinds := [], alts := [], laidByText := true, laidKinds := [.data, .pinned], laidTests := true, laidLooks := .later }
def CacheAgainUptoCardSaid : Prop := Claim7.holds Tryz.pinned (.plain (OpenSpec.upto cacheAgainSpec)) cacheAgainUptoCard

/-- THE SECOND FORM's CARD OF 'groynelaw15.PlanSame'. -/
def planSameUptoCard : Claim7 := { stood := { row := planSameUptoRow, standIns := [], harness := (true, "813d9e5c7dc66e62746346c24c2fa178b04ed5cf1b53f764251eb6b4f4e2e045"), looks := true }, kinds := [], alts := [], laidByText := true, laidKinds := [.data, .pinned], laidTests := true, laidLooks := .later }
def PlanSameUptoCardSaid : Prop := Claim7.holds Tryz.pinned (.plain (OpenSpec.upto planSameSpec)) planSameUptoCard

/-- THE SECOND FORM's CARD OF 'groynelaw15.PlanOrder'. -/
def planOrderUptoCard : Claim7 := { stood := { row := planOrderUptoRow, standIns := [], harness := (true, "813d9e5c7dc66e62746346c24c2fa178b04ed5cf1b53f764251eb6b4f4e2e045"), looks := true }, kinds := [], alts := [], laidByText := true, laidKinds := [.data, .pinned], laidTests := true, laidLooks := .later }
def PlanOrderUptoCardSaid : Prop := Claim7.holds Tryz.pinned (.plain (OpenSpec.upto planOrderSpec)) planOrderUptoCard

/-- THE SECOND FORM's CARD OF 'groynelaw15.PlanWaits'. -/
def planWaitsUptoCard : Claim7 := { stood := { row := planWaitsUptoRow, standIns := [], harness := (true, "813d9e5c7dc66e62746346c24c2fa178b04ed5cf1b53f764251eb6b4f4e2e045"), looks := true }, kinds := [], alts := [], laidByText := true, laidKinds := [.data, .pinned], laidTests := true, laidLooks := .later }
def PlanWaitsUptoCardSaid : Prop := Claim7.holds Tryz.pinned (.plain (OpenSpec.upto planWaitsSpec)) planWaitsUptoCard

/-- THE SECOND FORM's CARD OF 'groynelaw15.PlanKeeps'. -/
def planKeepsUptoCard : Claim7 := { stood := { row := planKeepsUptoRow, standIns := [], harness := (true, "813d9e5c7dc66e62746346c24c2fa178b04ed5cf1b53f764251eb6b4f4e2e045"), looks := true }, kinds := [], alts := [], laidByText := true, laidKinds := [.data, .pinned], laidTests := true, laidLooks := .later }
def PlanKeepsUptoCardSaid : Prop := Claim7.holds Tryz.pinned (.plain (OpenSpec.upto planKeepsSpec)) planKeepsUptoCard

/-- THE SECOND FORM's CARD OF 'groynelaw15.PlanServes'. -/
def planServesUptoCard : Claim7 := { stood := { row := planServesUptoRow, standIns := [], harness := (true, "813d9e5c7dc66e62746346c24c2fa178b04ed5cf1b53f764251eb6b4f4e2e045"), looks := true }, kinds := [], alts := [], laidByText := true, laidKinds := [.data, .pinned], laidTests := true, laidLooks := .later }
def PlanServesUptoCardSaid : Prop := Claim7.holds Tryz.pinned (.plain (OpenSpec.upto planServesSpec)) planServesUptoCard

/-- THE SECOND FORM's CARD OF 'groynelaw16.CachePlans'. -/
def cachePlansUptoCard : Claim7 := { stood := { row := cachePlansUptoRow, standIns := [], harness := (true, "813d9e5c7dc66e62746346c24c2fa178b04ed5cf1b53f764251eb6b4f4e2e045"), looks := true }, kinds := [], alts := [], laidByText := true, laidKinds := [.data, .pinned], laidTests := true, laidLooks := .later }
def CachePlansUptoCardSaid : Prop := Claim7.holds Tryz.pinned (.plain (OpenSpec.upto cachePlansSpec)) cachePlansUptoCard

/-- THE SECOND FORM's CARD OF 'groynelaw17.WarmPlans'. -/
def warmPlansUptoCard : Claim7 := { stood := { row := warmPlansUptoRow, standIns := [], harness := (true, "813d9e5c7dc66e62746346c24c2fa178b04ed5cf1b53f764251eb6b4f4e2e045"), looks := true }, kinds := [], alts := [], laidByText := true, laidKinds := [.data, .pinned], laidTests := true, laidLooks := .later }
def WarmPlansUptoCardSaid : Prop := Claim7.holds Tryz.pinned (.plain (OpenSpec.upto warmPlansSpec)) warmPlansUptoCard
end Rows
end Go.Proofs.YtmjkjmoeicnbnaaGreatDoor
